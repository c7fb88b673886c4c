/- The texts AbsX10, AbsX11, AbsX12, AbsL, AbsM, AbsN, AbsO. -/
import Derived.Test.YtmpdkagfplajjaaGreatDoorFG12
import Derived.Lib.UnsafeStr
set_option linter.all false
namespace Go.Abs
section
variable {C:Ctx} {G:A0t} {M:Mem} {w:World}
def A3K(M:Mem)(x:AV):Option AV:=match x with
 |.val (.slice none 0 0)=>some (.val (.pointer none))
 |.vref f g sz lo len=>match M[f]? with
  |some (.vec _ _ _ _ hist)=>match hist.lookup g with
   |some n=>if lo<n then some (.vptr f g (lo*sz))else none
   |none=>none
  |_=>none
 |_=>none
def B6Y(hi:Inv C G M w){x}{xv}(hx:Rep G x xv)(ts:Array TypeId)(ty:TypeId){v}(h:A3K M x=some v):∃u,(Builtin.unsafeSliceData_ ts ty #[xv]).run C.P w=.ok u w/\Rep G v u:=by
 unfold A3K at h
 split at h
 .simp only[Z0a]at h;subst h;simp only[Rep]at hx;subst hx;exact⟨_,rfl,by simp[Rep]⟩
 .rename_i f g sz lo len;split at h;case h_2=>simp at h
  rename_i ety sz2 cs g' hist hM;split at h;case h_2=>simp at h
  rename_i n hn;split at h;case isFalse=>simp at h
  rename_i hlt;simp only[Z0a]at h;subst h;simp only[Rep]at hx;obtain⟨hf,hg,a,a',cap,hdr,k,i,rfl,l,j,e⟩:=hx;obtain⟨_,p2,_⟩:=hi.obj f _ hM;obtain⟨_,_,b,o,c,vs,q1,q2,_⟩:=p2 g n (A3i hn);have d:=hdr;rw[q1]at hdr;simp only[Z0c,Z0a]at hdr;obtain⟨rfl,rfl⟩:=hdr;refine⟨_,Lib.run_unsafeSliceData_row w ts ty a' len (c-lo) (by omega),?_⟩;simp only[Rep];exact⟨hf,hg,_,c,d,by rw[e (by omega)]⟩
 .simp at h
def B0n:List AV->Option (List UInt8)
 |[]=>some []
 |.val (.int .u8 n)::cs=>if 0<=n/\n<256 then(B0n cs).map (UInt8.ofNat n.toNat::·)else none
 |_=>none
def B8T:∀(cs:List AV) (l:List UInt8) (vs:List Value),B0n cs=some l->A0w G cs vs->vs=Lib.byteCells l
 |[],l,vs,h,hr=>by simp only[B0n,Z0a]at h;subst h;simp only[A0w]at hr;subst hr;rfl
 |c::cs,l,vs,h,hr=>by
  unfold B0n at h;split at h
  .rename_i h1;simp at h1
  .rename_i n cs' he;simp only[Z1e]at he;obtain⟨rfl,rfl⟩:=he;split at h;(case isFalse=>simp at h);rename_i hc;simp only[Z0i]at h;obtain⟨l',a,rfl⟩:=h;simp only[A0w]at hr;obtain⟨y,ys,rfl,hy,b⟩:=hr;simp only[Rep]at hy;subst hy;have:=B8T _ _ _ a b;subst this;(have hn:((UInt8.ofNat n.toNat).toNat:Int)=n:=by rw[UInt8.toNat_ofNat'];omega);simp only[Lib.byteCells,Z0B,hn]
  .simp at h
def A2q(P:Program)(pt:TypeId)(M:Mem)(p n:AV):Option (AV×Mem):=match n with
 |.val (.int .i64 n)=>if n=0 then(match p with
  |.val (.pointer none)=>some (.val (.string .empty),M)
  |.vptr _ _ _=>some (.val (.string .empty),M)
  |_=>none)else match p with
  |.vptr f g off=>match P.underlying pt,M[f]? with
   |some (.pointer e),some (.vec ty 1 cs _ hist)=>match hist.lookup g with
    |some m=>if 0<n/\off+n.toNat<=m/\ty=e/\P.cellsOf e=1/\n<=9223372036854775807 then match B0n ((cs.drop off).take n.toNat)with
     |some l=>some (.val (.string ⟨l.toArray⟩),M.set f .gone)
     |none=>none
     else none
    |none=>none
   |_,_=>none
  |_=>none
 |_=>none
def D3x{P}{e:TypeId}(hc:P.cellsOf e=1)(a off n:Nat)(hn:off+n<=a):liesAt P P.depth e a off e n=true:=by have hd:P.depth=(2*(P.types.size+Made.depth)+1)+1:=rfl;rw[hd];simp only[liesAt,Z1H];left;rw[hd];simp[rowAt,hc,hn,sameLayout,Nat.mod_one]
def B2z{P}(w:World)(pt it ty e:TypeId)(hp:P.underlying pt=some (.pointer e))(hc:P.cellsOf e=1)(g o cells:Nat)(m:w.shape? g=some (e,cells))(l:List UInt8)(h0:l≠[])(hn:o+l.length<=cells)(p:l.length<=9223372036854775807)
 (c:∀j x,l[j]?=some x->w.cell? ((⟨g,o,none⟩:Addr).add j)=some (.int .u8 x.toNat)):
 (Builtin.unsafeString_ #[pt,it] ty #[.pointer (some ⟨g,o,none⟩),.int .i64 l.length]).run P w=.ok (.string ⟨l.toArray⟩) (w.freeze ⟨g,o,none⟩ l.length):=by
 have hl:l.length≠0:=by simpa using h0
 have k:=Lib.run_loadBytes (P:=P) w l ⟨g,o,none⟩ .empty c
 have b:=D3x (P:=P) hc (cells/P.cellsOf e) o l.length (by rw[hc];simpa using hn)
 have i:¬(9223372036854775807:Int)<(l.length:Int):=by omega
 have d:Builtin.unsafeString_ #[pt,it] ty #[.pointer (some ⟨g,o,none⟩),.int .i64 l.length]=
  (do
   let n <-asInt (.int .i64 l.length)
   if n<0 then runtimePanic (.error "unsafe.String: len out of range")
   if n>IntKind.i64.max then unsupported (.unsafePointer "String: a length above the largest int")
   if n=0 then pure (.string .empty)
   else if<-variablesAt ⟨g,o,none⟩ (<-elemOf pt) n.toNat then do
    let s <-loadBytes ⟨g,o,none⟩ .empty n.toNat
    freeze ⟨g,o,none⟩ n.toNat
    pure (.string s)
   else unsupported (.unsafePointer "String: not so many bytes at ptr")):=rfl
 rw[d]
 have h:IntKind.i64.max=9223372036854775807:=rfl
 have f:¬(l.length:Int)<0:=by omega
 simp[asInt,asIntOf,h,i,f,hl,variablesAt,m,elemOf,Z0p hp,b,k]
def C5K(w:World)(a:Addr)(n b:Nat)(h:b≠a.block):(w.freeze a n).heap[b]?=w.heap[b]?:=by
 unfold World.freeze;split
 .rfl
 .simp only[Array.getElem?_modify];rw[Z0e (λe=>h e.symm)]
def B7d(hi:Inv C G M w){p n}{pv nv}(hp:Rep G p pv)(hn:Rep G n nv){pt it ty:TypeId}{v}{M'}(h:A2q C.P pt M p n=some (v,M')):∃u w',(Builtin.unsafeString_ #[pt,it] ty #[pv,nv]).run C.P w=.ok u w'/\Inv C G M' w'/\Rep G v u/\Ext w w':=by
 unfold A2q at h
 split at h
 case h_2=>simp at h
 rename_i n
 simp only[Rep]at hn
 subst hn
 split at h
 .rename_i h0;subst h0;split at h
  .simp only[Z0a,Z0c]at h;obtain⟨rfl,rfl⟩:=h;simp only[Rep]at hp;subst hp;exact⟨_,w,Lib.run_unsafeString_none w _ _ _ _,hi,by simp[Rep],.refl _⟩
  .simp only[Z0a,Z0c]at h;obtain⟨rfl,rfl⟩:=h;simp only[Rep]at hp;obtain⟨_,_,a,cap,_,rfl⟩:=hp;exact⟨_,w,Lib.run_unsafeString_none w _ _ _ _,hi,by simp[Rep],.refl _⟩
  .simp at h
 .rename_i h0;split at h;case h_2=>simp at h
  rename_i f g off;split at h;case h_2=>simp at h
  rename_i e ety cs g' hist hu hM;split at h;case h_2=>simp at h
  rename_i m hm;split at h;case isFalse=>simp at h
  rename_i hc;obtain⟨z,a0,rfl,d,a1⟩:=hc;split at h;case h_2=>simp at h
  rename_i l hl;simp only[Z0a,Z0c]at h;obtain⟨rfl,rfl⟩:=h;simp only[Rep]at hp;obtain⟨hf,hg,a,cap,hdr,rfl⟩:=hp;obtain⟨_,p2,_⟩:=hi.obj f _ hM;obtain⟨_,q0,b,o,y,vs,q1,q2,q3,q4,q5,q6,q7,q8,q9⟩:=p2 g m (A3i hm);rw[q1]at hdr;simp only[Z0c,Z0a]at hdr;obtain⟨rfl,rfl⟩:=hdr;simp only[Nat.mul_one]at q0 q5 q6 q7;have r:A0w G ((cs.drop off).take n.toNat) ((vs.toList.drop (o+off)).take n.toNat):=by have h1:=(q6.drop off).take n.toNat;rw[Z3o,Z2v,Z3o,Z2v,Z1Y]at h1;rw[Z1E (by omega)]at h1;exact h1
  have s:=B8T _ _ _ hl r;have k:l.length=n.toNat:=by have:=congrArg List.length s;rw[Lib.byteCells_length,Z0F,Z1w,Z1D]at this;omega
  have t:(n:Int)=(l.length:Int):=by omega
  have q:=B2z (P:=C.P) w pt it ty ety hu d b (o+off) vs.size (by simp[World.shape?,q4]) l (by intro e;subst e;simp at k;omega) (by omega) (by omega) (λj x hx=>by
   (have h1:(Lib.byteCells l)[j]?=some (.int .u8 x.toNat):=by simp[Lib.byteCells,hx]);rw[<-s,Z0N]at h1
   split at h1
   .rw[Z1a]at h1;rw[Z1y,Z2L _ _ _ _ _ _ q4];simpa using h1
   .simp at h1)
  rw[t];refine⟨_,_,q,?_,by simp[Rep],?_⟩
  .refine hi.step f b hM (.inl ⟨g,m,_,A3i hm,congrArg Prod.fst q1,rfl⟩) (.refl _) rfl (λ_=>rfl) (λ_ _=>⟨rfl,rfl⟩) (λb i v h=>.inl h) (λ_=>rfl) (λc _ hne=>C5K w _ _ _ hne) (λi v hv=>by rw[q8 i]at hv;simp at hv) (λo ho=>by rw[q9]at ho;simp at ho) trivial (λb hb=>hb.elim)
  .unfold World.freeze;split
   .exact .refl _
   .exact⟨rfl,rfl,rfl,by simp⟩
end
section
variable {C:Ctx} {G:A0t} {M:Mem} {w:World}
def C0B{P}{t u e:TypeId}{ty:TypeId}{sz}{x}{a}{n cap m}{w w'}(ht:P.underlying t=some (.slice e))(f:A1h P e=some sz)
 (hu:A4f P u)(hx:∀w,(Builtin.lenOf x).run P w=.ok m w)
 {news}(d:(Builtin.firstCells sz m x).run P w=.ok news.toArray w)(c:n+m<=cap)(b:(storeCells (a.add (n*sz)) news).run P w=.ok () w'):
 (Builtin.append_ #[t,u] ty #[.slice (some a) n cap,x]).run P w=.ok (.slice (some a) (n+m) cap) w':=by
 obtain⟨e2,hu⟩|hu:=hu
 all_goals simp[Builtin.append_,Z0p ht,Z0p hu,A1X f,hx,d,c,b]
def A3g(e:TypeId)(sz:Nat)(s x:AV)(M:Mem):Option (AV×Mem):=
 match A0z M sz x,s with
 |some (news,m),.vref f h s' lo len=>match M[f]? with
  |some (.vec e2 s2 cs g hist)=>match hist.lookup h with
   |some n=>if e2=e/\s'=sz/\s2=sz/\0<m/\lo+len+m<=n then
    some (.vref f h sz lo (len+m),M.set f (.vec e sz (A0e cs ((lo+len)*sz) news) g (A1A sz h ((lo+len)*sz) hist)))
    else none
   |none=>none
  |_=>none
 |_,_=>none
def C4w(hi:Inv C G M w){s x}{sv xv}(hs:Rep G s sv)(hx:Rep G x xv){t u e ty:TypeId}{sz}(ht:C.P.underlying t=some (.slice e))(hu:A4f C.P u)
 (p:A1h C.P e=some sz){v}{M'}(h:A3g e sz s x M=some (v,M')):
 ∃r w',(Builtin.append_ #[t,u] ty #[sv,xv]).run C.P w=.ok r w'/\Inv C G M' w'/\Rep G v r/\Ext w w':=by
 unfold A3g at h
 split at h
 case h_2=>simp at h
 rename_i news m f h' s' lo len hsrc
 obtain⟨a3,l,j,i,y,a5⟩:=A7N hi hx hsrc
 split at h
 case h_2=>simp at h
 rename_i e2 s2 cs g hist hM
 split at h
 case h_2=>simp at h
 rename_i n hn
 split at h
 case isFalse=>simp at h
 rename_i hc
 obtain⟨rfl,rfl,rfl,a8,a7⟩:=hc
 simp only[Z0a,Z0c]at h
 obtain⟨rfl,rfl⟩:=h
 simp only[Rep]at hs
 obtain⟨hf,hg,a,a',cap,hdr,a9,a6,rfl,aa,z,a0⟩:=hs
 obtain⟨_,p2,_⟩:=hi.obj f _ hM
 obtain⟨_,q0,b,o,c,vs,q1,q2,_⟩:=p2 h' n (A3i hn)
 have d:=hdr
 rw[q1]at hdr
 simp only[Z0c,Z0a]at hdr
 obtain⟨rfl,rfl⟩:=hdr
 have ha:=a0 (by omega)
 subst ha
 have a4:news.length=m*s2:=by rw[<-l.length];exact j
 have hb:(lo+len)*s2+news.length<=n*s2:=by rw[a4,<-Z0L];exact Z1c _ (by omega)
 obtain⟨a2,w',k,a1,h2,h3⟩:=B0O hi (f:=f) (g:=h') (off:=(lo+len)*s2) (x:=.pointer (some ⟨b,o+(lo+len)*s2,none⟩)) (by simp only[Rep];exact⟨hf,hg,_,c,d,rfl⟩) l i hM hn hb
 simp only[Z3L,Z0a]at k
 subst k
 have q:(storeCells ((⟨b,o+lo*s2,none⟩:Addr).add (len*s2)) a3).run C.P w=.ok () w':=by rw[Z1y,Z2r,<-Z0L];exact a1
 refine⟨_,w',C0B ht p hu y (a5 w rfl) (by omega) q,h2,?_,h3⟩
 simp only[Rep]
 exact⟨hf,hg,_,_,c,d,rfl,rfl,rfl,by omega,z,λ_=>rfl⟩
end
section
variable {C:Ctx} {G:A0t} {M:Mem} {w:World}
def A3n(P:Program)(b:Builtin)(ts:List TypeId)(args:List AV)(M:Mem):Option (AV×Mem):=match b,ts,args with
 |.clear,[t],[x]=>A5u P t M x
 |.unsafeSliceData,_,[x]=>(A3K M x).map λv=>(v,M)
 |.unsafeString,[pt,it],[p,n]=>A2q P pt M p n
 |_,_,_=>none
def B7O(hi:Inv C G M w){b}{ts}{args}{xs}(hr:A0w G args xs.toList){v}{M'}(h:A3n C.P b ts.toList args M=some (v,M'))(ty:TypeId)(a:Array Bool):∃u w',(builtin b ts ty a xs).run C.P w=.ok (.value u) w'/\Inv C G M' w'/\Rep G v u/\Ext w w':=by
 obtain⟨xs⟩:=xs
 obtain⟨ts⟩:=ts
 simp only at hr h
 unfold A3n at h
 split at h
 .simp only[A0w]at hr;obtain⟨y,_,rfl,hy,rfl⟩:=hr;obtain⟨r,w',h1,h2,h3,h4⟩:=C6s (ty:=ty) hi hy h;exact⟨r,w',by simp only[builtin,Z0G,h1,Z0y,Z0O],h2,h3,h4⟩
 .simp only[A0w]at hr;obtain⟨y,_,rfl,hy,rfl⟩:=hr;simp only[Z0i,Z0c]at h;obtain⟨v',hv,rfl,rfl⟩:=h;obtain⟨u,h1,h2⟩:=B6Y hi hy ts.toArray ty hv;exact⟨u,w,by simp only[builtin,Z0G,h1,Z0y,Z0O],hi,h2,.refl _⟩
 .rename_i pt it p n;simp only[A0w]at hr;obtain⟨y,_,rfl,hy,y2,_,rfl,c,rfl⟩:=hr;obtain⟨r,w',h1,h2,h3,h4⟩:=B7d (ty:=ty) (it:=it) hi hy c h;exact⟨r,w',by simp only[builtin,Z0G,h1,Z0y,Z0O],h2,h3,h4⟩
 .simp at h
def A2Q(C:Ctx)(o:Oper)(ρ:Operand->AV)(M:Mem):Option (AV×Mem):=match o.op with
 |.range t x=>A6z C.P t (ρ x) M
 |.next x true=>A5D (ρ x) M
 |.slice t x lo hi mx=>(A3j C.P t M (ρ x) (lo.map ρ) (hi.map ρ) (mx.map ρ)).map λv=>(v,M)
 |.convert s d x=>match B0v C.P s d (ρ x)with
  |some v=>some (v,M)
  |none=>(B6o C.P s d M (ρ x)).map λv=>(v,M)
 |.call {callee:=.builtin b,args,argTypes}=>A3n C.P b argTypes.toList (args.toList.map ρ) M
 |_=>none
def D7f(hi:Inv C G M w){o}{ρ:Operand->AV}{σ:Operand->Value}(hρ:∀x∈o.op.operands.toList,Rep G (ρ x) (σ x)){v}{M'}(h:A2Q C o ρ M=some (v,M')):A3A C G w (execOp σ o) v M':=by
 obtain⟨dst,op,type,pos,after,guard⟩:=o;simp only at hρ;unfold A2Q at h;simp only at h;split at h
 .rename_i t x;obtain⟨u,w',G',h1,h2,h3,h4,h5⟩:=C7I hi (hρ x (by simp[Op.operands])) h;exact⟨_,w',G',A3N h1,.inl ⟨u,rfl,h4⟩,h2,h3,h5⟩
 .rename_i x;obtain⟨u,w',h1,h2,h3,h4⟩:=C8u hi (hρ x (by simp[Op.operands])) type h;exact⟨_,w',G,A3N h1,.inl ⟨u,rfl,h3⟩,.refl _,h2,h4⟩
 .rename_i t x lo hi' mx;simp only[Z0i,Z0c]at h;obtain⟨v',hv,rfl,rfl⟩:=h;have e:∀(y:Option Operand),(∀q,y=some q->Rep G (ρ q) (σ q))->∀a,y.map ρ=some a->∃z,y.map σ=some z/\Rep G a z:=λy hy a ha=>by
   cases y with
   |none=>simp at ha
   |some q=>simp at ha;subst ha;exact⟨_,rfl,hy q rfl⟩
  obtain⟨u,h1,h2⟩:=B7a (w:=w) hi (hρ x (by simp[Op.operands])) (e lo (λq hq=>hρ q (by simp[Op.operands,hq]))) (by cases lo<;>simp) (e hi' (λq hq=>hρ q (by simp[Op.operands,hq]))) (by cases hi'<;>simp) (e mx (λq hq=>hρ q (by simp[Op.operands,hq]))) (by cases mx<;>simp) hv;exact A3A.same hi (x:=u) (A3N h1) h2
 .rename_i s d x;split at h
  .rename_i v' hv;simp only[Z0a,Z0c]at h;obtain⟨rfl,rfl⟩:=h;obtain⟨u,w',G',h1,h2,h3,h4,h5⟩:=C6q hi (hρ x (by simp[Op.operands])) hv;exact⟨_,w',G',A3N h1,.inl ⟨u,rfl,h4⟩,h2,h3,h5⟩
  .simp only[Z0i,Z0c]at h;obtain⟨v',hv,rfl,rfl⟩:=h;obtain⟨u,h1,h2⟩:=C7g (w:=w) hi (hρ x (by simp[Op.operands])) hv;exact A3A.same hi (x:=u) (A3N h1) h2
 .rename_i b args ts;have c:A0w G (args.toList.map ρ) (args.map σ).toList:=by have:=A8t (G:=G) args.toList (λx hx=>hρ x (by simp[Op.operands,Call.operands];simpa using hx));simpa using this
  obtain⟨u,w',h1,h2,h3,h4⟩:=B7O hi c h type (args.map λx=>x matches .const _);refine⟨.value u,w',G,?_,.inl ⟨u,rfl,h3⟩,.refl _,h2,h4⟩;simp only[execOp,resolve,Z0G,Z0O,Z0y,invoke];exact h1
 .simp at h
end
def A0U(C:Ctx)(h:A2x)(o:Oper)(ρ:Operand->AV)(M:Mem):Option (AV×Mem):=
 match o.op with
 |.load t x=>match ρ x with
  |.ptr b off=>((A3b M (.ptr b off)).bind (A1g C.P t)).map λv=>(v,M)
  |.vptr f g off=>((A3b M (.vptr f g off)).bind (A1g C.P t)).map λv=>(v,M)
  |_=>none
 |.store t a x=>match ρ a with
  |.ptr b off=>match M[b]? with
   |some (.cells bt cs)=>if(ρ x).storable&&decide (off+(ρ x).cells.length<=cs.length)&&decide (A1h C.P t=some (ρ x).cells.length)then some (.val undef,M.set b (.cells bt (A0e cs off (ρ x).cells)))else none
   |_=>none
  |.vptr f g off=>match M[f]? with
   |some (.vec vt sz cs g' hist)=>match hist.lookup g with
    |some n=>if(ρ x).storable&&decide (off+(ρ x).cells.length<=n*sz)&&decide (A1h C.P t=some (ρ x).cells.length)then some (.val undef,M.set f (.vec vt sz (A0e cs off (ρ x).cells) g' (A1A sz g off hist)))else none
    |none=>none
   |_=>none
  |_=>none
 |.alloc e=>match A0C C.P e with
  |some z=>if z.all (·.oneCell')then some (.ptr M.length 0,M++[.cells e (z.map .val)])else none
  |none=>none
 |.box e x=>if(ρ x).storable then some (.ptr M.length 0,M++[.cells e (ρ x).cells])else none
 |_=>none
def A0A(C:Ctx)(h:A2x)(o:Oper)(ρ:Operand->AV)(M:Mem):Option (AV×Mem):=
 match A0q C h o ρ with
 |some v=>some (v,M)
 |none=>match A0U C h o ρ M with
  |some r=>some r
  |none=>match A0Q C h o ρ M with
   |some r=>some r
   |none=>match A0E C o ρ with
    |some v=>some (v,M)
    |none=>A2Q C o ρ M
section
variable {C:Ctx} {G:A0t} {M:Mem} {w:World}
def D8X{P}{s}{w w'}(h:s.run P w=.ok () w'):(do s;pure .skip:Sem Next).run P w=.ok .skip w':=by simp only[Z0G,h,Z0y,Z0O]
def D2G(hi:Inv C G M w){o}{ρ:Operand->AV}{σ:Operand->Value}(hρ:∀x∈o.op.operands.toList,Rep G (ρ x) (σ x)){hn}{v}{M'}(h:A0U C hn o ρ M=some (v,M')):A3A C G w (execOp σ o) v M':=by
 obtain⟨dst,op,type,pos,after,guard⟩:=o;simp only at hρ;unfold A0U at h;simp only at h;split at h
 .rename_i t x;have hx:=hρ x (by simp[Op.operands]);split at h;case h_3=>simp at h
  all_goals
   rename_i he
   rw[he]at hx
   simp only[Z0i,Z1S,Z0c]at h
   obtain⟨r,⟨cs,c,hl⟩,rfl,rfl⟩:=h
   obtain⟨u,hu,i⟩:=B3x hi hx c hl
   exact A3A.same hi (x:=u) (A3N hu) i
 .rename_i t a x;have ha:=hρ a (by simp[Op.operands]);have hx:=hρ x (by simp[Op.operands]);split at h;case h_3=>simp at h
  .rename_i b off he;rw[he]at ha;split at h;(case h_2=>simp at h);rename_i bt cs c;split at h;(case isFalse=>simp at h);rename_i hc;simp only[Z0g,Z0m]at hc;simp only[Z0a,Z0c]at h;obtain⟨rfl,rfl⟩:=h;obtain⟨w',h1,h2,h3⟩:=C5T hi ha hx c hc.1.1 hc.2 hc.1.2;exact⟨_,w',G,D8X h1,.inr ⟨rfl,rfl⟩,.refl _,h2,h3⟩
  .rename_i f g off he;rw[he]at ha;split at h;(case h_2=>simp at h);rename_i vt sz cs g' hist hM;split at h;(case h_2=>simp at h);rename_i n hn;split at h;(case isFalse=>simp at h);rename_i hc;simp only[Z0g,Z0m]at hc;simp only[Z0a,Z0c]at h;obtain⟨rfl,rfl⟩:=h;obtain⟨w',h1,h2,h3⟩:=C3K hi ha hx hM hn hc.1.1 hc.2 hc.1.2;exact⟨_,w',G,D8X h1,.inr ⟨rfl,rfl⟩,.refl _,h2,h3⟩
 .rename_i e;split at h;case h_2=>simp at h
  rename_i z hz;split at h;case isFalse=>simp at h
  rename_i hall;simp only[Z0a,Z0c]at h;obtain⟨rfl,rfl⟩:=h;obtain⟨zv,hv,d,j⟩:=A9W (P:=C.P) hz G w;obtain⟨G',h1,h2,h3,h4⟩:=hi.newBox e (vs:=zv.cells) (by rw[d];exact j) (λy hy=>by rw[d]at hy;exact Z0t.1 hall y hy);refine⟨_,_,G',A3N (v:=.pointer (some ⟨w.heap.size,0,none⟩)) (w':=w.alloc (.cells zv.cells e)) ?_,.inl ⟨_,rfl,by simp only[Rep];exact⟨h4,by rw[h3]⟩⟩,h2,h1,Ext.alloc _ _⟩;simp only[Instr.alloc,Z0G,hv,Z0y,newVar,newRow,Z3E,Z0O];rfl
 .rename_i e x;have hx:=hρ x (by simp[Op.operands]);split at h;case isFalse=>simp at h
  rename_i hs;simp only[Z0a,Z0c]at h;obtain⟨rfl,rfl⟩:=h;obtain⟨c1,c2⟩:=hx.cells hs;obtain⟨G',h1,h2,h3,h4⟩:=hi.newBox e (vs:=(σ x).cells) c1 c2;refine⟨_,_,G',A3N (v:=.pointer (some ⟨w.heap.size,0,none⟩)) (w':=w.alloc (.cells (σ x).cells e)) ?_,.inl ⟨_,rfl,by simp only[Rep];exact⟨h4,by rw[h3]⟩⟩,h2,h1,Ext.alloc _ _⟩;simp only[Instr.box,newVar,newRow,Z0G,Z3E,Z0y,Z0O];rfl
 .simp at h
def C3j(hi:Inv C G M w){o}{ρ:Operand->AV}{σ:Operand->Value}(hρ:∀x∈o.op.operands.toList,Rep G (ρ x) (σ x)){hn}{v}{M'}(h:A0A C hn o ρ M=some (v,M')):A3A C G w (execOp σ o) v M':=by
 unfold A0A at h;split at h
 .rename_i u hu;simp only[Z0a,Z0c]at h;obtain⟨rfl,rfl⟩:=h;exact C7S hi hρ hu
 .split at h
  .rename_i r hr;simp only[Z0a]at h;subst h;exact D2G hi hρ hr
  .split at h
   .rename_i r hr;simp only[Z0a]at h;subst h;exact C8Z hi hρ hr
   .split at h
    .rename_i u hu;simp only[Z0a,Z0c]at h;obtain⟨rfl,rfl⟩:=h;exact B6Q hi hρ hu
    .exact D7f hi hρ h
end
def A8R(vec:Bool):AV->Bool
 |.vref _ _ _ _ _=>true
 |.val (.slice none 0 0)=>vec
 |.list _ [] .full=>vec
 |_=>false
def B7l(sz:Nat):AV->Bool
 |.list s _ _=>s==sz
 |_=>true
def B1M{sz}{v}:B7l sz v=true<->B0x sz v:=by cases v<;>simp[B7l,B0x]
def A3u(own vec:Bool)(e:TypeId)(sz bytes:Nat)(s x:AV)(M:Mem):Option (AV×Mem):=
 if A8R vec s then match A0z M sz s,A0z M sz x with
  |some (_,k),some (_,m)=>if(k+m)*bytes<=140737488355328 then(match A3g e sz s x M with|some r=>some r|none=>A2L e sz s x M)else none
  |_,_=>none
 else if B7l sz s&&B7l sz x&&decide ((A8X s+A8X x)*bytes<=140737488355328)then A7E own sz s x M else none
def C3z{C}{G}{M}{w}(hi:Inv C G M w){s x}{sv xv}(hs:Rep G s sv)(hx:Rep G x xv){t u e ty:TypeId}{sz bytes}(ht:A0R C.P t=some e)(hu:A4f C.P u)
 (he:A3x C.P e sz bytes){own vec}{v}{M'}(h:A3u own vec e sz bytes s x M=some (v,M')):
 ∃r w' G',(Builtin.append_ #[t,u] ty #[sv,xv]).run C.P w=.ok r w'/\G.le G'/\Inv C G' M' w'/\Rep G' v r/\Ext w w':=by
 unfold A3u at h
 split at h
 .split at h
  .rename_i cs k news m h1 h2;split at h;(case isFalse=>simp at h);rename_i hb;split at h
   .rename_i r hr;simp only[Z0a]at h;subst h;obtain⟨i,z,a,hz,b,_⟩:=he;obtain⟨r,w',k1,k2,k3,k4⟩:=C4w (ty:=ty) hi hs hx (A2t ht) hu (by simp[A1h,a,b]) hr;exact⟨r,w',G,k1,.refl _,k2,k3,k4⟩
   refine C9a hi hs hx (A2t ht) hu he (λc k' e1 news' m' e2=>?_) h;rw[h1]at e1;rw[h2]at e2;simp only[Z0a,Z0c]at e1 e2;rw[<-e1.2,<-e2.2];exact hb
  .simp at h
 .split at h
  .rename_i hc;simp only[Z0g,Z0m,B1M]at hc;exact C3G hi hs hx hc.1.1 hc.1.2 h ty ht hu he hc.2
  .simp at h
def B3Y(P:Program)(t u:TypeId)(sz bytes:Nat)(e:TypeId):Prop:=A0R P t=some e/\A4f P u/\A3x P e sz bytes
def D5p(P:Program)(g:FuncId):Prop:=∀(args:Array Value) (w:World),(callFunc g args).run P w=.ok (.enter g args) w
def C4F(C:Ctx)(g:FuncId)(args:List AV)(M:Mem)(Q:AV->Mem->Prop):Prop:=∀G w (vs:List Value),Inv C G M w->A0w G args vs->∃x w' G' r M',(callFunc g vs.toArray).run C.P w=.ok (.value x) w'/\Q r M'/\G.le G'/\Inv C G' M' w'/\Rep G' r x/\Ext w w'
def C4F.mono{C}{g}{args}{M}{Q Q':AV->Mem->Prop}(h:C4F C g args M Q)(hq:∀r m,Q r m->Q' r m):C4F C g args M Q':=by intro G w vs hi hr;obtain⟨x,w',G',r,M',h1,h2,h3⟩:=h G w vs hi hr;exact⟨x,w',G',r,M',h1,hq _ _ h2,h3⟩
def A4d(C:Ctx)(g:FuncId)(args:List AV)(M:Mem)(Q:AV->Mem->Prop):Prop:=(D5p C.P g/\A0d C g args M Q)\/C4F C g args M Q
def A4d.mono{C}{g}{args}{M}{Q Q':AV->Mem->Prop}(h:A4d C g args M Q)(hq:∀r m,Q r m->Q' r m):A4d C g args M Q':=h.imp (λh=>⟨h.1,h.2.mono hq⟩) (λh=>h.mono hq)
def A9h(P:Program)(op:BinOp)(t:TypeId)(x y:AV):Bool:=
 match x,y with
 |.list _ [] _,.val (.slice none 0 0)=>(match op with|.eql|.neq=>true|_=>false)&&(match P.underlying t with|some (.slice _)=>true|_=>false)
 |_,_=>false
def A9Y(C:Ctx)(o:Oper)(ρ:Operand->AV):Bool:=match o.op with
 |.binOp op t x y _=>A9h C.P op t (ρ x) (ρ y)
 |_=>false
def A4z(C:Ctx)(h:A2x)(o:Oper)(K:AV->Mem->Prop)(ρ:Operand->AV)(M:Mem):Prop:=
 match o.op with
 |.call {callee:=.value f,args,..}=>match ρ f with
  |.func (.func g) first captured=>A4d C g (first++args.toList.map ρ++captured) M K
  |_=>False
 |.call {callee:=.builtin .append,args,argTypes}=>match args.toList,argTypes.toList with
  |[s,x],[t,u]=>∃e sz bytes,B3Y C.P t u sz bytes e/\
   match A3u (A1V h.own o.dst) (A1V h.vec o.dst) e sz bytes (ρ s) (ρ x) M with
   |some (v,M')=>K v M'
   |none=>False
  |_,_=>False
 |_=>match A0A C h o ρ M with
  |some (v,M')=>K v M'
  |none=>A9Y C o ρ=true/\∀b,K (.val (.bool b)) M
def B0f(C:Ctx)(G:A0t)(w:World)(o:Oper)(a:Act)(K:AV->Mem->Prop):Prop:=∀(next:Act->World->Prop) (Q:Exit->Act->World->Prop),(∀v M' G' w' x,K v M'->G.le G'->Inv C G' M' w'->Rep G' v x->Ext w w'->next (a.put o.dst x) w')->o.wp C.P a w next Q
def A6k{C}{G}{M}{w}(hi:Inv C G M w){h}{o}{ρ:Operand->AV}{a}(hρ:∀x∈o.op.operands.toList,Rep G (ρ x) (a.eval x)){K:AV->Mem->Prop}(hv:A4z C h o K ρ M):B0f C G w o a K:=by
 intro next Q hK
 have l:∀v M',A0A C h o ρ M=some (v,M')->K v M'->o.wp C.P a w next Q:=by
  intro v M' he hk;obtain⟨nx,w',G',h1,h2,h3,h4,h5⟩:=C3j hi hρ he;unfold Oper.wp;rw[h1];rcases h2 with⟨x,rfl,hr⟩|⟨rfl,rfl⟩
  .exact hK v M' G' w' x hk h3 h4 hr h5
  .exact hK _ M' G' w' undef hk h3 h4 (by simp[Rep]) h5
 obtain⟨dst,op,type,pos,after,guard⟩:=o;unfold A4z at hv;simp only at hv;split at hv
 .rename_i f args ts;split at hv;case h_2=>exact hv.elim
  rename_i g first captured hf
  have m:=hρ f (by simp[Op.operands,Call.operands]);rw[hf]at m;simp only[Rep]at m;obtain⟨fs,cs,q,a4,a1⟩:=m;have j:A0w G (args.toList.map ρ) (args.toList.map a.eval):=A8t args.toList (λx hx=>hρ x (by simp[Op.operands,Call.operands];simp at hx;simp[hx]));have i:=(a4.append j).append a1;have e:(fs.toList++args.toList.map a.eval++cs.toList).toArray=fs++args.map a.eval++cs:=by apply Z1B;simp
  rcases hv with⟨a3,hc⟩|hc;case inr=>obtain⟨x,w',G',r,M',q1,q2,q3,q4,q5,q6⟩:=hc G w _ hi i;rw[e]at q1;unfold Oper.wp;(have c:(execOp a.eval {dst:=dst,op:=.call {callee:=.value f,args:=args,argTypes:=ts},type:=type,pos:=pos,after:=after,guard:=guard}).run C.P w=.ok (.value x) w':=by simp only[execOp,resolve,q,Deferred.ofValue,Z0G,Z0O,Z0y,invoke];exact q1);rw[c];exact hK r M' G' w' x q2 q3 q4 q5 q6
  have k:=hc G w _ hi i;unfold Oper.wp;have c:(execOp a.eval {dst:=dst,op:=.call {callee:=.value f,args:=args,argTypes:=ts},type:=type,pos:=pos,after:=after,guard:=guard}).run C.P w=.ok (.enter g (fs++args.map a.eval++cs)) w:=by simp only[execOp,resolve,q,Deferred.ofValue,Z0G,Z0O,Z0y,invoke];exact a3 _ w
  rw[c];rw[e]at k;simp only[Oper.upon_enter];refine k.mono ?_;rintro e' w' ⟨r,M',G',v,rfl,k1,k2,k3,k4,k5⟩;exact hK r M' G' w' v k1 k2 k3 k4 k5
 .rename_i args ts;split at hv;case h_2=>exact hv.elim
  rename_i s x t u ha ht;obtain⟨e,sz,bytes,⟨he,hu,a2⟩,hm⟩:=hv;split at hm;case h_2=>exact hm.elim
  rename_i v M' hap;have j:args=#[s,x]:=by apply Z1B;simpa using ha
  have a5:ts=#[t,u]:=by apply Z1B;simpa using ht
  subst j;subst a5;have h1:=hρ s (by simp[Op.operands,Call.operands]);have h2:=hρ x (by simp[Op.operands,Call.operands]);obtain⟨rv,w',G',k1,k2,k3,k4,k5⟩:=C3z (ty:=type) hi h1 h2 he hu a2 hap;unfold Oper.wp;have c:(execOp a.eval {dst:=dst,op:=.call {callee:=.builtin .append,args:=#[s,x],argTypes:=#[t,u]},type:=type,pos:=pos,after:=after,guard:=guard}).run C.P w=.ok (.value rv) w':=by simp only[execOp,resolve,Z0G,Z0O,Z0y,invoke,builtin,List.map_toArray,Z0B,Z2g,k1]
  rw[c];exact hK v M' G' w' rv hm k2 k3 k4 k5
 .split at hv
  .rename_i v M' he;exact l v M' he hv
  .obtain⟨hn,i⟩:=hv;unfold A9Y at hn;split at hn;(case h_2=>simp at hn);rename_i bop t x y yt hop;simp only at hop;subst hop;unfold A9h at hn;split at hn;(case h_2=>simp at hn);rename_i sz own hx hy;simp only[Z0g]at hn;obtain⟨p,a0⟩:=hn;have h1:=hρ x (by simp[Op.operands]);have h2:=hρ y (by simp[Op.operands]);rw[hx]at h1;rw[hy]at h2;simp only[Rep]at h1 h2;obtain⟨base,cap,z,_,_,_,_⟩:=h1;split at a0;(case h_2=>simp at a0);rename_i e hu;have hr:=A3F (P:=C.P) (t:=t) (xv:=a.eval x) (yv:=a.eval y) (ox:=x) (oy:=y) (b:=base.isNone) (w:=w) (λd=>by rw[z,h2];exact A5L hu d _ _ _ w) (.inr (.inl ⟨_,_,_,z⟩)) (.inr (.inl ⟨_,_,_,h2⟩));unfold Oper.wp;split at p
   .have:=A3N hr.1;simp only[execOp];rw[this];exact hK _ M G w _ (i base.isNone) (.refl _) hi (by simp[Rep]) (.refl _)
   .have:=A3N hr.2;simp only[execOp];rw[this];exact hK _ M G w _ (i (!base.isNone)) (.refl _) hi (by simp[Rep]) (.refl _)
   .simp at p
def Oper.inside(N:Nat)(o:Oper):Bool:=o.op.operands.toList.all (Operand.inside N)
def A2o(ops:Array Oper)(o:Oper)(T:Env)(run skip:Prop):Prop:=
 match o.guard with
 |none=>run
 |some (j,want)=>match(ops[j]?).bind (·.dst)with
  |some d=>match T d with
   |.val (.bool b)=>if b=want then run else skip
   |.val (.tuple _)=>skip
   |_=>False
  |none=>False
def A9L(C:Ctx)(h:A2x)(ops:Array Oper):List Oper->(Env->Mem->Prop)->Env->Mem->Prop
 |[],K,T,M=>K T M
 |o::rest,K,T,M=>A2o ops o T (A4z C h o (λv M'=>A9L C h ops rest K (T.put o.dst v) M') (T.ev C) M) (A9L C h ops rest K (T.put o.dst (.val undef)) M)
def B1Z(N:Nat)(ops:Array Oper)(o:Oper):Bool:=match o.guard with
 |none=>true
 |some (j,_)=>match(ops[j]?).bind (·.dst)with
  |some d=>decide (d<N)
  |none=>true
def A2m(N:Nat)(ops:Array Oper)(l:List Oper):Bool:=l.all λo=>Oper.inside N o&&B1Z N ops o
def A8T{C}{G}{M}{w}{N}{T}{a}(hi:Inv C G M w)(he:A3c G N T a){o}(h:Oper.inside N o=true):∀x∈o.op.operands.toList,Rep G (T.ev C x) (a.eval x):=λx hx=>D3Z hi he x (Z0t.1 h x hx)
def B1z{C:Ctx}{G:A0t}{M:Mem}{w:World}{N:Nat}{T:Env}{a:Act}(he:A3c G N T a){ops:Array Oper}{o:Oper}(hg:B1Z N ops o=true){run skip:Prop}(h:A2o ops o T run skip):(Region.wanted o (yielded ops a.tmps)=true/\run)\/(Region.wanted o (yielded ops a.tmps)=false/\skip):=by
 unfold A2o at h
 unfold B1Z at hg
 unfold Region.wanted
 split at h
 .rename_i hn;rw[hn];exact .inl ⟨rfl,h⟩
 .rename_i j want hs;rw[hs]at hg|-;simp only at hg;split at h;case h_2=>exact h.elim
  rename_i d hd;rw[hd]at hg;simp only[Z0m]at hg;have hr:=he.at_ d hg;have g:=he.size;have f:d<a.tmps.size:=g▸hg;obtain⟨x,hx,c⟩:∃x,a.tmps[d]?=some x/\Rep G (T d) x:=⟨a.tmps[d],Z0R f,by simpa[Array.getD,f]using hr⟩;have hy:yielded ops a.tmps j=match(generalizing:=false) x with|.bool b=>some b|_=>none:=by unfold yielded;simp only[hd,Z2C,hx];cases x<;>rfl
  split at h
  .rename_i b hb;rw[hb]at c;simp only[Rep]at c;subst c;simp only[hy];by_cases e:b=want
   .rw[Z0d e]at h;exact .inl ⟨by simp[e],h⟩
   .rw[Z0e e]at h;exact .inr ⟨by simp[e],h⟩
  .rename_i vs hb;rw[hb]at c;simp only[Rep]at c;subst c;simp only[hy];exact .inr ⟨by simp,h⟩
  .exact h.elim
def B1R{C:Ctx}{N:Nat}{h:A2x}{ops:Array Oper}{Q:Exit->Env->Mem->Prop}:∀(l:List Oper) (G0:A0t) (w0:World) (G:A0t) (T:Env) (M:Mem) (w:World) (a:Act),
 A2m N ops l=true->A9L C h ops l (λT M=>Q .normal T M) T M->G0.le G->Ext w0 w->Inv C G M w->A3c G N T a->wpList C.P ops (B3p C N Q G0 w0) l a w
 |[],G0,w0,G,T,M,w,a,_,hv,hle,hext,hi,he=>⟨T,M,G,hv,hle,hi,he,hext⟩
 |o::rest,G0,w0,G,T,M,w,a,hin,hv,hle,hext,hi,he=>by
  simp only[A2m,Z1t,Z0g]at hin;obtain⟨⟨ho,hg⟩,c⟩:=hin;have b:A2m N ops rest=true:=by simpa[A2m]using c
  simp only[A9L]at hv;simp only[wpList];rcases B1z (C:=C) (M:=M) (w:=w) he hg hv with⟨hw,hr⟩|⟨hw,hs⟩
  .rw[Z0d hw];left;refine A6k hi (A8T hi he ho) hr _ _ ?_;intro v M' G' w' x hk h1 h2 h3 h4;exact B1R rest G0 w0 G' _ M' w' _ b hk (hle.trans h1) (hext.trans h4) h2 ((he.mono h1).put h3)
  .rw[Z0e (by simp[hw])];exact B1R rest G0 w0 G _ M w _ b hs hle hext hi (he.put (by simp[Rep]))
def B9T{C}{N}{h}{id}{ops}{Q:Exit->Env->Mem->Prop}{T}{M}(b:A2m N ops ops.toList=true)(hv:A9L C h ops ops.toList (λT M=>Q .normal T M) T M):
 AWp C N (.region id ops false) Q T M:=
 λG w a hi he=>wp_region_list (B1R ops.toList G w G T M w a b hv (.refl _) (.refl _) hi he)
def B6E(C:Ctx)(T:Env)(M:Mem):ResultVar->Option AV
 |.tmp t=>some (T t)
 |.cell a ty=>(A3b M (T a)).bind (A1g C.P ty)
def A5g(C:Ctx)(T:Env)(M:Mem):List ResultVar->Option (List AV)
 |[]=>some []
 |r::rs=>match B6E C T M r,A5g C T M rs with
  |some v,some vs=>some (v::vs)
  |_,_=>none
def A3D(C:Ctx)(rs:List ResultVar)(T:Env)(M:Mem):Option AV:=
 match A5g C T M rs with
 |some [v]=>some v
 |some vs=>some (.tuple vs)
 |none=>none
def A5v(N:Nat):List ResultVar->Bool
 |[]=>true
 |.tmp t::rs=>decide (t<N)&&A5v N rs
 |.cell a _::rs=>decide (a<N)&&A5v N rs
def B4m(C:Ctx)(rs:List ResultVar)(Q:AV->Mem->Prop):Exit->Env->Mem->Prop
 |.normal,T,M|.ret,T,M=>match A3D C rs T M with
  |some r=>Q r M
  |none=>False
 |_,_,_=>False
def C0t(tmps:Array Value):ResultVar->Sem Value
 |.tmp t=>pure (tmps.getD t undef)
 |.cell b t=>do loadVar t (<-asAddr (tmps.getD b undef))
def C0r(fn:Func)(tmps:Array Value):results fn tmps=(do
 let vs <-fn.results.mapM (C0t tmps)
 pure (if h:vs.size=1 then vs[0]else .tuple vs)):=by
 unfold results
 congr 1
def A9m{C}{G}{M}{w}{N}{T}{a}(hi:Inv C G M w)(he:A3c G N T a):∀(rs:List ResultVar) (vs:List AV),A5v N rs=true->A5g C T M rs=some vs->
 ∃xs,(rs.mapM (C0t a.tmps)).run C.P w=.ok xs w/\A0w G vs xs
 |[],vs,_,h=>by simp[A5g]at h;subst h;exact⟨[],by simp,by simp[A0w]⟩
 |r::rs,vs,hin,h=>by
  simp only[A5g]at h;split at h;case h_2=>simp at h
  rename_i v vs' h1 h2;simp only[Z0a]at h;subst h;cases r with
  |tmp t=>simp only[A5v,Z0g,Z0m]at hin;obtain⟨xs,q1,q2⟩:=A9m hi he rs vs' hin.2 h2;simp only[B6E,Z0a]at h1;subst h1;refine⟨a.tmps.getD t undef::xs,?_,by simp only[A0w];exact⟨_,_,rfl,he.at_ t hin.1,q2⟩⟩;simp only[Z3p,C0t,Z0G,Z0O,Z0y,q1]
  |cell b ty=>simp only[A5v,Z0g,Z0m]at hin;obtain⟨xs,q1,q2⟩:=A9m hi he rs vs' hin.2 h2;simp only[B6E,Z1S]at h1;obtain⟨cs,c,hl⟩:=h1;have hr:=he.at_ b hin.1;obtain⟨u,hu,d⟩:=B3x hi hr c hl;obtain⟨bb,ii,_,hp,_⟩:=C1k hi hr c;refine⟨u::xs,?_,by simp only[A0w];exact⟨_,_,rfl,d,q2⟩⟩;rw[hp]at hu;simp only[Instr.loadAt,Instr.sureAddr,Z0G,Z0O,Z0y]at hu;simp only[Z3p,C0t,Z0G,Z0O,Z0y,hp,asAddr,hu,q1]
def B1I{C}{f}{fn}{c}{args}{M}{Q:AV->Mem->Prop}{N}{rs}(hf:C.P.funcs[f]?=some fn)(hb:fn.body=some c)(hN:fn.ntmps=N)(d:fn.results=rs.toArray) (hn:decide (args.length<=N)=true)(g:A5v N rs=true)(h:AWp C N c (B4m C rs Q) (Env.of args) M):A0d C f args M Q:=by
 intro G w vs hi hr
 have j:=hr.length
 simp only[Z0m]at hn
 refine calls_of_wp hf hb ?_
 have he:=A3c.of (G:=G) (N-vs.length) hr
 rw[show vs.length+(N-vs.length)=N from by omega]at he
 have hw:=h G w _ hi he
 rw[hN]
 refine Z4k (by simpa using hw) ?_
 rintro e a' w' ⟨T',M',G',h1,h2,h3,h4,h5⟩
 have key:B4m C rs Q .ret T' M'->a'.defers=[]/\∃v,(results fn a'.tmps).run C.P w'=.ok v w'/\∃r M' G' v',Ending.returned v=.returned v'/\Q r M'/\G.le G'/\Inv C G' M' w'/\Rep G' r v'/\Ext w w':=by
  intro hq;refine⟨h4.defers,?_⟩;simp only[B4m]at hq;split at hq;case h_2=>exact hq.elim
  rename_i r hres;unfold A3D at hres;have a:∀vs',A5g C T' M' rs=some vs'->∃xs,(fn.results.mapM (C0t a'.tmps)).run C.P w'=.ok xs.toArray w'/\A0w G' vs' xs:=by intro vs' i;obtain⟨xs,q1,q2⟩:=A9m h3 h4 rs vs' g i;refine⟨xs,?_,q2⟩;rw[d];simp only[Z3W,Sem.run_map,q1,Z0y]
  cases hrl:A5g C T' M' rs with
  |none=>rw[hrl]at hres;simp at hres
  |some vs'=>
   rw[hrl]at hres;obtain⟨xs,q1,q2⟩:=a vs' hrl;have hl:=q2.length;by_cases h1':vs'.length=1
   .match vs',h1' with
    |[v],_=>simp only[Z0a]at hres;subst hres;simp only[A0w]at q2;obtain⟨x,_,rfl,hx,rfl⟩:=q2;exact⟨x,by simp only[C0r,Z0G,q1,Z0y,Z0O];simp,v,M',G',x,rfl,hq,h2,h3,hx,h5⟩
   .have b:r=.tuple vs':=by
     split at hres
     .rename_i v hv;cases hv;simp at h1'
     .rename_i vs'' _ hv;simp only[Z0a]at hv hres;subst hv;exact hres.symm
     .rename_i hv;simp at hv
    subst b;refine⟨.tuple xs.toArray,by simp only[C0r,Z0G,q1,Z0y,Z0O];simp[hl,h1'],_,M',G',_,rfl,hq,h2,h3,by simp only[Rep];exact⟨_,rfl,by simpa using q2⟩,h5⟩
 cases e with
 |normal=>exact key h1
 |ret=>exact key h1
 |exit id=>exact h1.elim
 |goto l=>exact h1.elim
 |panic ch=>exact h1.elim
 |outgrown=>exact h1.elim
def B8J(C:Ctx)(h:A2x)(N:Nat):Code->(Exit->Env->Mem->Prop)->Env->Mem->Prop
 |.skip,Q,T,M=>Q .normal T M
 |.label _,Q,T,M=>Q .normal T M
 |.region id ops draw,Q,T,M=>if draw=true then AWp C N (.region id ops true) Q T M else A9L C h ops ops.toList (λT M=>Q .normal T M) T M
 |.seq x y,Q,T,M=>B8J C h N x (C5U (B8J C h N y Q) Q) T M
 |.cond c x y,Q,T,M=>match T.ev C c with
  |.val (.bool b)=>if b=true then B8J C h N x Q T M else B8J C h N y Q T M
  |_=>False
 |.block id c,Q,T,M=>B8J C h N c (A7w id Q) T M
 |.exit id,Q,T,M=>Q (.exit id) T M
 |.ret,Q,T,M=>Q .ret T M
 |c,Q,T,M=>AWp C N c Q T M
def A2X(N:Nat):Code->Bool
 |.region _ ops draw=>draw||A2m N ops ops.toList
 |.seq x y=>A2X N x&&A2X N y
 |.cond c x y=>Operand.inside N c&&A2X N x&&A2X N y
 |.block _ c=>A2X N c
 |_=>true
def B5T:Op->Bool
 |.call _=>true
 |_=>false
def A0L{α:Type}(o:Option α)(f:α->Prop):Prop:=match o with
 |some v=>f v
 |none=>False
@[simp] def C4O{α:Type}(v:α)(f:α->Prop):A0L (some v) f=f v:=rfl
@[simp] def D8W{α:Type}(f:α->Prop):A0L none f=False:=rfl
section
variable {C:Ctx} {h:A2x} {N:Nat} {Q:Exit->Env->Mem->Prop} {T:Env} {M:Mem} {K:AV->Mem->Prop} {ρ:Operand->AV}
def D3y{rs}{Q:AV->Mem->Prop}:B4m C rs Q .ret T M=A0L (A3D C rs T M) (λr=>Q r M):=by simp only[B4m,A0L];cases A3D C rs T M<;>rfl
def C3Y{rs}{Q:AV->Mem->Prop}:B4m C rs Q .normal T M=A0L (A3D C rs T M) (λr=>Q r M):=by simp only[B4m,A0L];cases A3D C rs T M<;>rfl
@[simp] def E7W{t:Nat}:T.ev C (.tmp t)=T t:=rfl
@[simp] def E3u{v}:T.ev C (.const v)=.val v:=rfl
@[simp] def E1n{g}:T.ev C (.global g)=C.gl g:=rfl
@[simp] def E5H{f:Nat}:T.ev C (.func f)=.func (.func f) [] []:=rfl
@[simp] def E7y{d j}{v}:T.put (some d) v j=if j=d then v else T j:=rfl
def A6E{ops:Array Oper}{d:Option Tmp}{op:Op}{t:TypeId}{p:String}{af:Array Edge}{run skip:Prop}:A2o ops ⟨d,op,t,p,af,none⟩ T run skip=run:=rfl
variable {d:Option Tmp} {t:TypeId} {p:String} {af:Array Edge} {g:Option (Nat×Bool)}
def A4a{op}(a:B5T op=false)(hn:A9Y C ⟨d,op,t,p,af,g⟩ ρ=false):A4z C h ⟨d,op,t,p,af,g⟩ K ρ M=A0L (A0A C h ⟨d,op,t,p,af,g⟩ ρ M) (λx=>K x.1 x.2):=by
 have e:A4z C h ⟨d,op,t,p,af,g⟩ K ρ M=(match A0A C h ⟨d,op,t,p,af,g⟩ ρ M with|some (v,M')=>K v M'|none=>A9Y C ⟨d,op,t,p,af,g⟩ ρ=true/\∀b,K (.val (.bool b)) M):=by cases op<;>first|exact Bool.noConfusion a|rfl
 rw[e,hn];cases A0A C h ⟨d,op,t,p,af,g⟩ ρ M with
 |none=>simp
 |some x=>rfl
def D1e(C:Ctx)(o:Oper)(ρ:Operand->AV)(M:Mem):Option (AV×Mem):=match A0E C o ρ with
 |some v=>some (v,M)
 |none=>A2Q C o ρ M
def B0I{o}(b:A0Q C h o ρ M=none)(a:D1e C o ρ M=none):A0A C h o ρ M=match A0q C h o ρ with
 |some v=>some (v,M)
 |none=>A0U C h o ρ M:=by
 unfold A0A
 rw[b]
 change(match A0q C h o ρ with|some v=>some (v,M)|none=>match A0U C h o ρ M with|some r=>some r|none=>D1e C o ρ M)=_
 rw[a]
 cases A0q C h o ρ with
 |some v=>rfl
 |none=>cases A0U C h o ρ M<;>rfl
def B4z(P:Program)(op:BinOp)(t:TypeId)(x y:AV)(f:AV->Prop):Prop:=match A1s P op t x y with
 |some v=>f v
 |none=>A9h P op t x y=true/\∀b,f (.val (.bool b))
def D0Y(C:Ctx)(o:Oper)(ρ:Operand->AV)(op:BinOp)(t:TypeId)(x y:AV)(f:AV->Prop):Prop:=match(A1s C.P op t x y).or (A0E C o ρ)with
 |some v=>f v
 |none=>A9h C.P op t x y=true/\∀b,f (.val (.bool b))
def A6l{P}{op}{t:TypeId}{x y}{f:AV->Prop}(h:A9h P op t x y=false):B4z P op t x y f=A0L (A1s P op t x y) f:=by unfold B4z A0L;rw[h];cases A1s P op t x y<;>simp
def B7z(c a b:AV):Option AV:=match c with
 |.val (.bool t)=>some (if t then a else b)
 |_=>none
@[simp] def D8V{t}{a b}:B7z (.val (.bool t)) a b=some (if t=true then a else b):=rfl
def B4X:AV->Option AV
 |.ptr b off=>some (.ptr b off)
 |.cptr cs=>some (.cptr cs)
 |.func (.func f) a c=>some (.func (.func f) a c)
 |.vptr f g off=>some (.vptr f g off)
 |_=>none
@[simp] def D9J{f g o}:B4X (.vptr f g o)=some (.vptr f g o):=rfl
@[simp] def E1l{b o}:B4X (.ptr b o)=some (.ptr b o):=rfl
@[simp] def E0N{cs}:B4X (.cptr cs)=some (.cptr cs):=rfl
@[simp] def E0y{f}{a c}:B4X (.func (.func f) a c)=some (.func (.func f) a c):=rfl
def C2z:AV->Option AV
 |.val (.bool b)=>some (.val (.bool !b))
 |_=>none
@[simp] def E0w{b}:C2z (.val (.bool b))=some (.val (.bool !b)):=rfl
def A8Y(k:Option Nat)(x:AV):Option AV:=match k,x with
 |some k,.ptr b off=>some (.ptr b (off+k))
 |some k,.cptr cs=>some (.cptr (cs.drop k))
 |some k,.vptr f g off=>some (.vptr f g (off+k))
 |_,_=>none
@[simp] def D8a{k f g o}:A8Y (some k) (.vptr f g o)=some (.vptr f g (o+k)):=rfl
@[simp] def D9e{k b o}:A8Y (some k) (.ptr b o)=some (.ptr b (o+k)):=rfl
@[simp] def D6T{k}{cs}:A8Y (some k) (.cptr cs)=some (.cptr (cs.drop k)):=rfl
def A7Z(x:AV)(i:Nat):Option AV:=match x with
 |.tuple vs=>vs[i]?
 |_=>none
@[simp] def D3B{vs}{i}:A7Z (.tuple vs) i=vs[i]?:=rfl
def A6s(e:Option (Option Nat))(x i:AV):Option AV:=match e,x,i with
 |some s,.list sz rows _,.val (.int _ i)=>if s=some sz/\0<=i/\i<rows.length then some (.cptr (rows.getD i.toNat []))else none
 |some s,.vref f g sz lo len,.val (.int _ i)=>if s=some sz/\0<=i/\i<len then some (.vptr f g ((lo+i.toNat)*sz))else none
 |_,_,_=>none
@[simp] def D9T{s sz f g lo len}{k}{i}:A6s (some (some s)) (.vref f g sz lo len) (.val (.int k i))=if s=sz/\0<=i/\i<len then some (.vptr f g ((lo+i.toNat)*sz))else none:=by simp[A6s]
@[simp] def E0P{s sz}{rows}{own}{k}{i}:A6s (some (some s)) (.list sz rows own) (.val (.int k i))=if s=sz/\0<=i/\i<rows.length then some (.cptr (rows.getD i.toNat []))else none:=by simp[A6s]
def A1D(P:Program)(t:TypeId)(M:Mem)(x:AV):Option AV:=(A3b M x).bind (A1g P t)
@[simp] def D8N{P}{t:TypeId}{M}{cs}:A1D P t M (.cptr cs)=A1g P t cs:=rfl
def A0b{P}{t:TypeId}{M}{b o}{bt:TypeId}{cs}(hb:M[b]?=some (.cells bt cs)):A1D P t M (.ptr b o)=if o<=cs.length then A1g P t (cs.drop o)else none:=by simp only[A1D,A3b,hb];split<;>rfl
def A7r(agg:Option Bool)(n:Option Nat)(cs:List AV):Option AV:=match agg,n with
 |some true,some n=>if n<=cs.length then some (.agg (cs.take n))else none
 |some false,some _=>cs.head?
 |_,_=>none
def A0k{P}{t:TypeId}{cs}:A1g P t cs=A7r (A2i P t) (A1h P t) cs:=by
 unfold A1g A7r;cases A2i P t with
 |none=>rfl
 |some b=>cases b<;>cases A1h P t<;>first|rfl|(cases cs<;>rfl)
@[simp] def C6r{n}{c}{cs}:A7r (some false) (some n) (c::cs)=some c:=rfl
@[simp] def D8Q{n}{cs}:A7r (some true) (some n) cs=if n<=cs.length then some (.agg (cs.take n))else none:=rfl
def A0n(s:Option Nat)(M:Mem)(a v:AV):Option Mem:=match a with
 |.ptr b off=>match M[b]? with
  |some (.cells bt cs)=>if v.storable&&decide (off+v.cells.length<=cs.length)&&decide (s=some v.cells.length)then some (M.set b (.cells bt (A0e cs off v.cells)))else none
  |_=>none
 |.vptr f g off=>match M[f]? with
  |some (.vec vt sz cs g' hist)=>match hist.lookup g with
   |some n=>if v.storable&&decide (off+v.cells.length<=n*sz)&&decide (s=some v.cells.length)then some (M.set f (.vec vt sz (A0e cs off v.cells) g' (A1A sz g off hist)))else none
   |none=>none
  |_=>none
 |_=>none
def A0h{n}{M}{b off}{v}{bt:TypeId}{cs}(hb:M[b]?=some (.cells bt cs)):A0n (some n) M (.ptr b off) v=if v.storable=true/\off+v.cells.length<=cs.length/\n=v.cells.length then some (M.set b (.cells bt (A0e cs off v.cells)))else none:=by simp only[A0n,hb,Z0g,Z0m,Z0a,and_assoc]
def C9j{op}{xt yt:TypeId}{x y}:A4z C h ⟨d,.binOp op xt x y yt,t,p,af,g⟩ K ρ M=D0Y C ⟨d,.binOp op xt x y yt,t,p,af,g⟩ ρ op xt (ρ x) (ρ y) (λv=>K v M):=by
 have e:A4z C h ⟨d,.binOp op xt x y yt,t,p,af,g⟩ K ρ M=(match A0A C h ⟨d,.binOp op xt x y yt,t,p,af,g⟩ ρ M with|some (v,M')=>K v M'|none=>A9h C.P op xt (ρ x) (ρ y)=true/\∀b,K (.val (.bool b)) M):=rfl;rw[e];have e2:A0A C h ⟨d,.binOp op xt x y yt,t,p,af,g⟩ ρ M=((A1s C.P op xt (ρ x) (ρ y)).or (A0E C ⟨d,.binOp op xt x y yt,t,p,af,g⟩ ρ)).map λv=>(v,M):=by
  unfold A0A;change(match A1s C.P op xt (ρ x) (ρ y)with|some v=>some (v,M)|none=>match A0E C ⟨d,.binOp op xt x y yt,t,p,af,g⟩ ρ with|some v=>some (v,M)|none=>none)=_;cases A1s C.P op xt (ρ x) (ρ y)with
  |some v=>rfl
  |none=>cases A0E C ⟨d,.binOp op xt x y yt,t,p,af,g⟩ ρ<;>rfl
 rw[e2];unfold D0Y;cases(A1s C.P op xt (ρ x) (ρ y)).or (A0E C ⟨d,.binOp op xt x y yt,t,p,af,g⟩ ρ)<;>rfl
def C1H{lt:TypeId}{x}:A4z C h ⟨d,.load lt x,t,p,af,g⟩ K ρ M=A0L (A1D C.P lt M (ρ x)) (λv=>K v M):=by
 rw[A4a rfl rfl,B0I rfl rfl];simp only[A0q,A0U,A1D];cases hx:ρ x with
 |cptr cs=>simp only[A3b,Z2C];cases A1g C.P lt cs<;>rfl
 |ptr b o=>simp only[];cases(A3b M (AV.ptr b o)).bind (A1g C.P lt)<;>rfl
 |vptr f g o=>simp only[];cases(A3b M (AV.vptr f g o)).bind (A1g C.P lt)<;>rfl
 |_=>rfl
def C9F{lt:TypeId}{x y}:A4z C h ⟨d,.store lt x y,t,p,af,g⟩ K ρ M=A0L (A0n (A1h C.P lt) M (ρ x) (ρ y)) (λM'=>K (.val undef) M'):=by
 rw[A4a rfl rfl,B0I rfl rfl];simp only[A0q,A0U,A0n];cases hx:ρ x with
 |ptr b o=>
  simp only[];cases hb:M[b]? with
  |none=>rfl
  |some ob=>
   cases ob with
   |cells bt cs=>simp only[];split<;>rfl
   |_=>rfl
 |vptr f g o=>
  simp only[];cases hb:M[f]? with
  |none=>rfl
  |some ob=>
   cases ob with
   |vec vt sz cs g' hist=>
    simp only[];cases hist.lookup g with
    |none=>rfl
    |some n=>simp only[];split<;>rfl
   |_=>rfl
 |_=>rfl
def A0m(P:Program)(e:TypeId)(M:Mem):Option (AV×Mem):=match A0C P e with
 |some z=>if z.all (·.oneCell')then some (.ptr M.length 0,M++[.cells e (z.map .val)])else none
 |none=>none
def C9b{e:TypeId}:A4z C h ⟨d,.alloc e,t,p,af,g⟩ K ρ M=A0L (A0m C.P e M) (λx=>K x.1 x.2):=by rw[A4a rfl rfl,B0I rfl rfl];rfl
def C1J(imm:Bool)(e:TypeId)(M:Mem)(x:AV):Option (AV×Mem):=if x.storable=true then(if imm=true then some (.cptr x.cells,M)else some (.ptr M.length 0,M++[.cells e x.cells]))else none
def D5J{e:TypeId}{x}:A4z C h ⟨d,.box e x,t,p,af,g⟩ K ρ M=A0L (C1J (A1V h.imm d) e M (ρ x)) (λx=>K x.1 x.2):=by rw[A4a rfl rfl,B0I rfl rfl];simp only[A0q,A0U,C1J];cases(ρ x).storable<;>cases A1V h.imm d<;>rfl
def A0D(P:Program)(t:TypeId)(parts:List (Nat×AV)):Option AV:=match A0C P t,P.underlying t with
 |some z,some (.struct _)=>if !A2Y P t||!z.all (·.oneCell')then none else(A1l P t parts (z.map .val)).map .agg
 |_,_=>none
def A0p(P:Program)(t:TypeId)(n:Nat)(parts:List (Nat×AV)):Option AV:=match A0R P t with
 |some e=>match A1h P e,A0C P e with
  |some sz,some z=>if n*sz<=2^24/\z.length=sz/\z.all (·.oneCell')/\0<sz then
   (A0Z sz parts (List.replicate n (z.map .val))).map λrows=>.list sz rows .full
   else none
  |_,_=>none
 |none=>none
def B7h{bt:TypeId}{n:Nat}{ps:List (Nat×Operand)}:A4z C h ⟨d,.buildSlice bt n ps.toArray,t,p,af,g⟩ K ρ M=if B3L C h bt d=true then A0L (A1C C.P bt n (ps.map λx=>(x.1,ρ x.2)) M) (λr=>K r.1 r.2)else A0L (A0p C.P bt n (ps.map λx=>(x.1,ρ x.2))) (λv=>K v M):=by
 rw[A4a rfl rfl];simp only[A0A,A0q,A0U,A0Q];cases B3L C h bt d with
 |true=>simp only[Z0H];change A0L (match A1C C.P bt n (ps.map λx=>(x.1,ρ x.2)) M with|some r=>some r|none=>none) _=_;cases A1C C.P bt n (ps.map λx=>(x.1,ρ x.2)) M<;>rfl
 |false=>simp only[Z0K,Z1l,A0p];show A0L (match A0p C.P bt n (ps.map λx=>(x.1,ρ x.2))with|some v=>some (v,M)|none=>none) _=A0L (A0p C.P bt n (ps.map λx=>(x.1,ρ x.2))) _;cases A0p C.P bt n (ps.map λx=>(x.1,ρ x.2))<;>rfl
def C4b{mt:TypeId}:A4z C h ⟨d,.makeMap mt none,t,p,af,g⟩ K ρ M=K (.mapr M.length) (M++[.map [] 0]):=by rw[A4a rfl rfl];rfl
def B6B{mt:TypeId}{m k}{ok}:A4z C h ⟨d,.lookup mt m k ok,t,p,af,g⟩ K ρ M=A0L (A1J C.P mt M (ρ m) (ρ k) ok) (λv=>K v M):=by rw[A4a rfl rfl];simp only[A0A,A0q,A0U,A0Q];cases A1J C.P mt M (ρ m) (ρ k) ok<;>rfl
def B8g{mt:TypeId}{m k x}:A4z C h ⟨d,.mapUpdate mt m k x,t,p,af,g⟩ K ρ M=A0L (A1u C.P mt M (ρ m) (ρ k) (ρ x)) (λM'=>K (.val undef) M'):=by rw[A4a rfl rfl];simp only[A0A,A0q,A0U,A0Q];cases A1u C.P mt M (ρ m) (ρ k) (ρ x)<;>rfl
def C4K{mt:TypeId}{m k x}:A4z C h ⟨d,.insert mt m k x,t,p,af,g⟩ K ρ M=A0L (A1u C.P mt M (ρ m) (ρ k) (ρ x)) (λM'=>K (.val undef) M'):=by rw[A4a rfl rfl];simp only[A0A,A0q,A0U,A0Q];cases A1u C.P mt M (ρ m) (ρ k) (ρ x)<;>rfl
def C0i{st:TypeId}{l c}:A4z C h ⟨d,.makeSlice st l c,t,p,af,g⟩ K ρ M=A0L (A4r C.P st (ρ l) (ρ c) M) (λr=>K r.1 r.2):=by rw[A4a rfl rfl];change A0L (match A4r C.P st (ρ l) (ρ c) M with|some r=>some r|none=>none) _=_;cases A4r C.P st (ρ l) (ρ c) M<;>rfl
def D3S{x}{xt:TypeId}:A4z C h ⟨d,.call {callee:=.builtin .len,args:=#[x],argTypes:=#[xt]},t,p,af,g⟩ K ρ M=A0L ((A1Z C.P xt (ρ x)).or (A3d C.P xt M (ρ x))) (λn=>K (.val (.int .i64 n)) M):=by
 simp only[A4z,A0A,A0q,A6M,Z0B,Z2g];cases hl:A1Z C.P xt (ρ x)with
 |none=>cases hm:A3d C.P xt M (ρ x)<;>simp[hl,hm,A0U,A0Q,A2e,A9Y,goInt,A0E,A2Q,A3n]
 |some n=>simp[hl,goInt]
def D3Y(C:Ctx)(f:AV)(args:List AV)(M:Mem)(K:AV->Mem->Prop):Prop:=match f with
 |.func (.func g) first captured=>A4d C g (first++args++captured) M K
 |_=>False
def B3U(C:Ctx)(own vec:Bool)(t u:TypeId)(s x:AV)(M:Mem)(K:AV->Mem->Prop):Prop:=∃e sz bytes,B3Y C.P t u sz bytes e/\A0L (A3u own vec e sz bytes s x M) (λr=>K r.1 r.2)
def C6V{s x}{st xt:TypeId}:A4z C h ⟨d,.call {callee:=.builtin .append,args:=#[s,x],argTypes:=#[st,xt]},t,p,af,g⟩ K ρ M=B3U C (A1V h.own d) (A1V h.vec d) st xt (ρ s) (ρ x) M K:=by
 simp only[A4z,B3U];congr;funext e;congr;funext sz;congr;funext bytes;cases A3u (A1V h.own d) (A1V h.vec d) e sz bytes (ρ s) (ρ x) M with
 |none=>rfl
 |some r=>rfl
end
@[simp] def C9H{α:Type}{c:Prop}[Decidable c](v:α)(f:α->Prop):A0L (if c then some v else none) f=(c/\f v):=by
 by_cases h:c<;>simp[h,A0L]
@[simp] def A2f{α β:Type}(o:Option α)(g:α->β)(f:β->Prop):A0L (o.map g) f=A0L o (λx=>f (g x)):=by
 cases o<;>rfl
@[simp] def E1y{mx}{k}{a b}:A7L mx (.val (.int k a)) (.val (.int k b))=some (.val (.int k (if mx=true then(if b>a then b else a)else(if b<a then b else a)))):=by
 simp[A7L]
attribute [simp] Value.oneCell' AV.storable AV.one AV.cells A0e A0k A3D A5g B6E A1V B0T A8X B0x goInt C1J
@[simp] def D2J{P}{op}{t:TypeId}{k}{a b}:A1s P op t (.val (.int k a)) (.val (.int k b))=(A9x op k a b).map .val:=by cases h:A9x op k a b<;>simp[A1s,A2F,A4t,h]
@[simp] def E1Q{P}{op}{t:TypeId}{a b}:A1s P op t (.val (.string a)) (.val (.string b))=(C0q op a b).map .val:=by cases h:C0q op a b<;>simp[A1s,A2F,A4t,h]
@[simp] def D6p{P}{t:TypeId}{a b}(h:P.underlying t=some .bool):A1s P .eql t (.val (.bool a)) (.val (.bool b))=some (.val (.bool (a==b))):=by simp[A1s,A2F,h]
@[simp] def D5c{P}{t:TypeId}{a b}(h:P.underlying t=some .bool):A1s P .neq t (.val (.bool a)) (.val (.bool b))=some (.val (.bool !(a==b))):=by simp[A1s,A2F,h]
@[simp] def D6u{P}{t e:TypeId}{b o}(h:P.underlying t=some (.pointer e)):A1s P .eql t (.ptr b o) (.val (.pointer none))=some (.val (.bool false)):=by simp[A1s,A2F,A3H,h,A3E,B4R]
attribute [simp] A9x
def D7H(a:ByteArray):∀(k i:Nat) (r:List UInt8),a.size-i=k->ByteArray.toList.loop a i r=r.reverse++a.data.toList.drop i:=by
 intro k;induction k with
 |zero=>
  intro i r h;rw[ByteArray.toList.loop];have:¬i<a.size:=by omega
  rw[Z0e this];rw[Z1Z (by simp;show a.size<=i;omega)];simp
 |succ k ih=>
  intro i r h;rw[ByteArray.toList.loop];have hi:i<a.size:=by omega
  rw[Z0d hi,ih (i+1) _ (by omega)];have b:i<a.data.toList.length:=by simpa using hi
  rw[Z0j b];have:a.get! i=a.data.toList[i]:=by show a.data[i]! =_;rw[getElem!_pos a.data i hi];simp
  rw[this];simp
def B5b(a:ByteArray):a.toList=a.data.toList:=by unfold ByteArray.toList;rw[D7H a (a.size-0) 0 [] rfl];simp
def D5X{a b:ByteArray}(h:a.data.toList=b.data.toList):a=b:=by obtain⟨⟨a⟩⟩:=a;obtain⟨⟨b⟩⟩:=b;simp at h;rw[h]
def D4N(a b:ByteArray):(a.toList==b.toList)=decide (a=b):=by rw[B5b,B5b,Z2e];simp only[Z2I,Z0m];exact⟨D5X,λh=>by rw[h]⟩
@[simp] def E2Y(a b:ByteArray):C0q .eql a b=some (.bool (decide (a=b))):=by show some _=some _;rw[D4N]
@[simp] def E3D(a b:ByteArray):C0q .neq a b=some (.bool (!decide (a=b))):=by show some _=some _;rw[D4N]
@[simp] def E4I(a b:ByteArray):C0q .add a b=if((a.size+b.size:Nat):Int)>IntKind.i64.max then none else some (.string (a++b)):=rfl
def D4j{P}{op}{t:TypeId}{k}{a b}{f:AV->Prop}:B4z P op t (.val (.int k a)) (.val (.int k b)) f=A0L ((A9x op k a b).map .val) f:=by rw[A6l rfl];simp
def D3N{P}{op}{t:TypeId}{a b}{f:AV->Prop}:B4z P op t (.val (.string a)) (.val (.string b)) f=A0L ((C0q op a b).map .val) f:=by rw[A6l rfl];simp
def D1F{P}{op}{t:TypeId}{a b}{f:AV->Prop}:B4z P op t (.val (.bool a)) (.val (.bool b)) f=A0L (A1s P op t (.val (.bool a)) (.val (.bool b))) f:=by rw[A6l rfl]
def D5u{P}{op}{t:TypeId}{b o}{y}{f:AV->Prop}:B4z P op t (.ptr b o) y f=A0L (A1s P op t (.ptr b o) y) f:=by rw[A6l rfl]
def C5d{P}{op}{t:TypeId}{v}{y}{f:AV->Prop}:B4z P op t (.val v) y f=A0L (A1s P op t (.val v) y) f:=by rw[A6l rfl]
def D3w{P}{op}{t:TypeId}{sz}{r}{rows}{own}{y}{f:AV->Prop}:B4z P op t (.list sz (r::rows) own) y f=A0L (A1s P op t (.list sz (r::rows) own) y) f:=by rw[A6l rfl]
def C0F{P}{op}{t e:TypeId}{sz}{own}{f:AV->Prop}(a:op=.eql\/op=.neq)(ht:P.underlying t=some (.slice e)):B4z P op t (.list sz [] own) (.val (.slice none 0 0)) f=∀b,f (.val (.bool b)):=by
 have h1:A1s P op t (.list sz [] own) (.val (.slice none 0 0))=none:=by rcases a with rfl|rfl<;>simp[A1s,A2F,A4t,A3H,ht,A3E,B4R]
 have h2:A9h P op t (.list sz [] own) (.val (.slice none 0 0))=true:=by rcases a with rfl|rfl<;>simp[A9h,ht]
 unfold B4z;rw[h1,h2];simp
@[simp] def D4t{P}{t e:TypeId}{sz}{r}{rows}{own}(h:P.underlying t=some (.slice e)):A1s P .eql t (.list sz (r::rows) own) (.val (.slice none 0 0))=some (.val (.bool false)):=by simp[A1s,A2F,A3H,h,A3E,B4R]
@[simp] def D6y{P:Program}{t e:TypeId}(h:P.underlying t=some (.slice e)):A1s P .neq t (.val (.slice none 0 0)) (.val (.slice none 0 0))=some (.val (.bool false)):=by simp[A1s,A2F,A3H,h,A3E,B4R]
@[simp] def D5a{P:Program}{t e:TypeId}{sz:Nat}{r:List AV}{rows:List (List AV)}{own:Own}(h:P.underlying t=some (.slice e)):A1s P .neq t (.list sz (r::rows) own) (.val (.slice none 0 0))=some (.val (.bool true)):=by simp[A1s,A2F,A3H,h,A3E,B4R]
@[simp] def D6G{n}:A1v n none=some n:=rfl
@[simp] def D7s{n}{k}{i}:A1v n (some (.val (.int k i)))=if 0<=i/\i<=n then some i.toNat else none:=rfl
attribute [congr] ite_congr
def D0b(v:AV)(want:Bool)(run skip:Prop):Prop:=match v with
 |.val (.bool b)=>if b=want then run else skip
 |.val (.tuple _)=>skip
 |_=>False
def C7T(d:Option Tmp)(want:Bool)(T:Env)(run skip:Prop):Prop:=match d with
 |some d=>D0b (T d) want run skip
 |none=>False
def D2F{ops}{d}{op}{t:TypeId}{p}{af}{run skip:Prop}{j}{want}{T}:A2o ops ⟨d,op,t,p,af,some (j,want)⟩ T run skip=C7T ((ops[j]?).bind (·.dst)) want T run skip:=by
 unfold A2o C7T D0b
 rfl
def D0h(v:AV)(x y:Prop):Prop:=match v with
 |.val (.bool b)=>if b=true then x else y
 |_=>False
end Go.Abs
