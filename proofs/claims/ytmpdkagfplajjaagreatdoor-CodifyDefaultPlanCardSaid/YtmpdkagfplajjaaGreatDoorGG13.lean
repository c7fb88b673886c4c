/- The texts AbsX10, AbsX11, AbsX12, AbsL, AbsM, AbsN, AbsO. -/
import Derived.Test.YtmpdkagfplajjaaGreatDoorGG12
import Derived.Lib.UnsafeStr
set_option linter.all false
namespace Go.Abs
section
variable {C:Ctx} {G:A0r} {M:Mem} {w:World}
def A4r(M:Mem)(x:AV):Option AV:=match x with
 |.val (.slice none 0 0)=>some (.val (.pointer none))
 |.vref f g sz lo len=>match M[f]? with
  |some (.vec _ _ _ _ hist)=>match hist.lookup g with
   |some n=>if lo<n then some (.vptr f g (lo*sz))else none
   |none=>none
  |_=>none
 |_=>none
def B7y(hi:Inv C G M w){x}{xv}(hx:Rep G x xv)(ts:Array TypeId)(ty:TypeId){v}(h:A4r M x=some v):∃u,(Builtin.unsafeSliceData_ ts ty #[xv]).run C.P w=.ok u w/\Rep G v u:=by
 unfold A4r at h
 split at h
 .simp only[Z0b]at h;subst h;simp only[Rep]at hx;subst hx;exact⟨_,rfl,by simp[Rep]⟩
 .rename_i f g sz lo len;split at h;case h_2=>simp at h
  rename_i ety sz2 cs g' hist hM;split at h;case h_2=>simp at h
  rename_i n hn;split at h;case isFalse=>simp at h
  rename_i hlt;simp only[Z0b]at h;subst h;simp only[Rep]at hx;obtain⟨hf,hg,a,a',cap,hdr,k,i,rfl,l,j,e⟩:=hx;obtain⟨_,p2,_⟩:=hi.obj f _ hM;obtain⟨_,_,b,o,c,vs,q1,q2,_⟩:=p2 g n (A3h hn);have d:=hdr;rw[q1]at hdr;simp only[Z0f,Z0b]at hdr;obtain⟨rfl,rfl⟩:=hdr;refine⟨_,Lib.run_unsafeSliceData_row w ts ty a' len (c-lo) (by omega),?_⟩;simp only[Rep];exact⟨hf,hg,_,c,d,by rw[e (by omega)]⟩
 .simp at h
def B1W:List AV->Option (List UInt8)
 |[]=>some []
 |.val (.int .u8 n)::cs=>if 0<=n/\n<256 then(B1W cs).map (UInt8.ofNat n.toNat::·)else none
 |_=>none
def B9B:∀(cs:List AV) (l:List UInt8) (vs:List Value),B1W cs=some l->A0u G cs vs->vs=Lib.byteCells l
 |[],l,vs,h,hr=>by simp only[B1W,Z0b]at h;subst h;simp only[A0u]at hr;subst hr;rfl
 |c::cs,l,vs,h,hr=>by
  unfold B1W at h;split at h
  .rename_i h1;simp at h1
  .rename_i n cs' he;simp only[Z1c]at he;obtain⟨rfl,rfl⟩:=he;split at h;(case isFalse=>simp at h);rename_i hc;simp only[Z0j]at h;obtain⟨l',a,rfl⟩:=h;simp only[A0u]at hr;obtain⟨y,ys,rfl,hy,b⟩:=hr;simp only[Rep]at hy;subst hy;have:=B9B _ _ _ a b;subst this;(have hn:((UInt8.ofNat n.toNat).toNat:Int)=n:=by rw[UInt8.toNat_ofNat'];omega);simp only[Lib.byteCells,Z0s,hn]
  .simp at h
def A3q(P:Program)(pt:TypeId)(M:Mem)(p n:AV):Option (AV×Mem):=match n with
 |.val (.int .i64 n)=>if n=0 then(match p with
  |.val (.pointer none)=>some (.val (.string .empty),M)
  |.vptr _ _ _=>some (.val (.string .empty),M)
  |_=>none)else match p with
  |.vptr f g off=>match P.underlying pt,M[f]? with
   |some (.pointer e),some (.vec ty 1 cs _ hist)=>match hist.lookup g with
    |some m=>if 0<n/\off+n.toNat<=m/\ty=e/\P.cellsOf e=1/\n<=9223372036854775807 then match B1W ((cs.drop off).take n.toNat)with
     |some l=>some (.val (.string ⟨l.toArray⟩),M.set f .gone)
     |none=>none
     else none
    |none=>none
   |_,_=>none
  |_=>none
 |_=>none
def D3D{P}{e:TypeId}(hc:P.cellsOf e=1)(a off n:Nat)(hn:off+n<=a):liesAt P P.depth e a off e n=true:=by have hd:P.depth=(2*(P.types.size+Made.depth)+1)+1:=rfl;rw[hd];simp only[liesAt,Z1z];left;rw[hd];simp[rowAt,hc,hn,sameLayout,Nat.mod_one]
def B3i{P}(w:World)(pt it ty e:TypeId)(hp:P.underlying pt=some (.pointer e))(hc:P.cellsOf e=1)(g o cells:Nat)(m:w.shape? g=some (e,cells))(l:List UInt8)(h0:l≠[])(hn:o+l.length<=cells)(p:l.length<=9223372036854775807)
 (c:∀j x,l[j]?=some x->w.cell? ((⟨g,o,none⟩:Addr).add j)=some (.int .u8 x.toNat)):
 (Builtin.unsafeString_ #[pt,it] ty #[.pointer (some ⟨g,o,none⟩),.int .i64 l.length]).run P w=.ok (.string ⟨l.toArray⟩) (w.freeze ⟨g,o,none⟩ l.length):=by
 have hl:l.length≠0:=by simpa using h0
 have k:=Lib.run_loadBytes (P:=P) w l ⟨g,o,none⟩ .empty c
 have b:=D3D (P:=P) hc (cells/P.cellsOf e) o l.length (by rw[hc];simpa using hn)
 have i:¬(9223372036854775807:Int)<(l.length:Int):=by omega
 have d:Builtin.unsafeString_ #[pt,it] ty #[.pointer (some ⟨g,o,none⟩),.int .i64 l.length]=
  (do
   let n <-asInt (.int .i64 l.length)
   if n<0 then runtimePanic (.error "unsafe.String: len out of range")
   if n>IntKind.i64.max then unsupported (.unsafePointer "String: a length above the largest int")
   if n=0 then pure (.string .empty)
   else if<-variablesAt ⟨g,o,none⟩ (<-elemOf pt) n.toNat then do
    let s <-loadBytes ⟨g,o,none⟩ .empty n.toNat
    freeze ⟨g,o,none⟩ n.toNat
    pure (.string s)
   else unsupported (.unsafePointer "String: not so many bytes at ptr")):=rfl
 rw[d]
 have h:IntKind.i64.max=9223372036854775807:=rfl
 have f:¬(l.length:Int)<0:=by omega
 simp[asInt,asIntOf,h,i,f,hl,variablesAt,m,elemOf,Z0p hp,b,k]
def C6i(w:World)(a:Addr)(n b:Nat)(h:b≠a.block):(w.freeze a n).heap[b]?=w.heap[b]?:=by
 unfold World.freeze;split
 .rfl
 .simp only[Array.getElem?_modify];rw[Z0c (λe=>h e.symm)]
def B7D(hi:Inv C G M w){p n}{pv nv}(hp:Rep G p pv)(hn:Rep G n nv){pt it ty:TypeId}{v}{M'}(h:A3q C.P pt M p n=some (v,M')):∃u w',(Builtin.unsafeString_ #[pt,it] ty #[pv,nv]).run C.P w=.ok u w'/\Inv C G M' w'/\Rep G v u/\Ext w w':=by
 unfold A3q at h
 split at h
 case h_2=>simp at h
 rename_i n
 simp only[Rep]at hn
 subst hn
 split at h
 .rename_i h0;subst h0;split at h
  .simp only[Z0b,Z0f]at h;obtain⟨rfl,rfl⟩:=h;simp only[Rep]at hp;subst hp;exact⟨_,w,Lib.run_unsafeString_none w _ _ _ _,hi,by simp[Rep],.refl _⟩
  .simp only[Z0b,Z0f]at h;obtain⟨rfl,rfl⟩:=h;simp only[Rep]at hp;obtain⟨_,_,a,cap,_,rfl⟩:=hp;exact⟨_,w,Lib.run_unsafeString_none w _ _ _ _,hi,by simp[Rep],.refl _⟩
  .simp at h
 .rename_i h0;split at h;case h_2=>simp at h
  rename_i f g off;split at h;case h_2=>simp at h
  rename_i e ety cs g' hist hu hM;split at h;case h_2=>simp at h
  rename_i m hm;split at h;case isFalse=>simp at h
  rename_i hc;obtain⟨z,a0,rfl,d,a1⟩:=hc;split at h;case h_2=>simp at h
  rename_i l hl;simp only[Z0b,Z0f]at h;obtain⟨rfl,rfl⟩:=h;simp only[Rep]at hp;obtain⟨hf,hg,a,cap,hdr,rfl⟩:=hp;obtain⟨_,p2,_⟩:=hi.obj f _ hM;obtain⟨_,q0,b,o,y,vs,q1,q2,q3,q4,q5,q6,q7,q8,q9⟩:=p2 g m (A3h hm);rw[q1]at hdr;simp only[Z0f,Z0b]at hdr;obtain⟨rfl,rfl⟩:=hdr;simp only[Nat.mul_one]at q0 q5 q6 q7;have r:A0u G ((cs.drop off).take n.toNat) ((vs.toList.drop (o+off)).take n.toNat):=by have h1:=(q6.drop off).take n.toNat;rw[Z3u,Z2t,Z3u,Z2t,Z1V]at h1;rw[Z1H (by omega)]at h1;exact h1
  have s:=B9B _ _ _ hl r;have k:l.length=n.toNat:=by have:=congrArg List.length s;rw[Lib.byteCells_length,Z0E,Z1x,Z1F]at this;omega
  have t:(n:Int)=(l.length:Int):=by omega
  have q:=B3i (P:=C.P) w pt it ty ety hu d b (o+off) vs.size (by simp[World.shape?,q4]) l (by intro e;subst e;simp at k;omega) (by omega) (by omega) (λj x hx=>by
   (have h1:(Lib.byteCells l)[j]?=some (.int .u8 x.toNat):=by simp[Lib.byteCells,hx]);rw[<-s,Z0N]at h1
   split at h1
   .rw[Z1d]at h1;rw[Z1C,Z2R _ _ _ _ _ _ q4];simpa using h1
   .simp at h1)
  rw[t];refine⟨_,_,q,?_,by simp[Rep],?_⟩
  .refine hi.step f b hM (.inl ⟨g,m,_,A3h hm,congrArg Prod.fst q1,rfl⟩) (.refl _) rfl (λ_=>rfl) (λ_ _=>⟨rfl,rfl⟩) (λb i v h=>.inl h) (λ_=>rfl) (λc _ hne=>C6i w _ _ _ hne) (λi v hv=>by rw[q8 i]at hv;simp at hv) (λo ho=>by rw[q9]at ho;simp at ho) trivial (λb hb=>hb.elim)
  .unfold World.freeze;split
   .exact .refl _
   .exact⟨rfl,rfl,rfl,by simp⟩
end
section
variable {C:Ctx} {G:A0r} {M:Mem} {w:World}
def C1g{P}{t u e:TypeId}{ty:TypeId}{sz}{x}{a}{n cap m}{w w'}(ht:P.underlying t=some (.slice e))(f:A1t P e=some sz)
 (hu:A4f P u)(hx:∀w,(Builtin.lenOf x).run P w=.ok m w)
 {news}(d:(Builtin.firstCells sz m x).run P w=.ok news.toArray w)(c:n+m<=cap)(b:(storeCells (a.add (n*sz)) news).run P w=.ok () w'):
 (Builtin.append_ #[t,u] ty #[.slice (some a) n cap,x]).run P w=.ok (.slice (some a) (n+m) cap) w':=by
 obtain⟨e2,hu⟩|hu:=hu
 all_goals simp[Builtin.append_,Z0p ht,Z0p hu,A2f f,hx,d,c,b]
def A6B(e:TypeId)(sz:Nat)(s x:AV)(M:Mem):Option (AV×Mem):=
 match A0A M sz x,s with
 |some (news,m),.vref f h s' lo len=>match M[f]? with
  |some (.vec e2 s2 cs g hist)=>match hist.lookup h with
   |some n=>if e2=e/\s'=sz/\s2=sz/\0<m/\lo+len+m<=n then
    some (.vref f h sz lo (len+m),M.set f (.vec e sz (A0e cs ((lo+len)*sz) news) g (A1w sz h ((lo+len)*sz) hist)))
    else none
   |none=>none
  |_=>none
 |_,_=>none
def C4Y(hi:Inv C G M w){s x}{sv xv}(hs:Rep G s sv)(hx:Rep G x xv){t u e ty:TypeId}{sz}(ht:C.P.underlying t=some (.slice e))(hu:A4f C.P u)
 (p:A1t C.P e=some sz){v}{M'}(h:A6B e sz s x M=some (v,M')):
 ∃r w',(Builtin.append_ #[t,u] ty #[sv,xv]).run C.P w=.ok r w'/\Inv C G M' w'/\Rep G v r/\Ext w w':=by
 unfold A6B at h
 split at h
 case h_2=>simp at h
 rename_i news m f h' s' lo len hsrc
 obtain⟨a3,l,j,i,y,a5⟩:=A7W hi hx hsrc
 split at h
 case h_2=>simp at h
 rename_i e2 s2 cs g hist hM
 split at h
 case h_2=>simp at h
 rename_i n hn
 split at h
 case isFalse=>simp at h
 rename_i hc
 obtain⟨rfl,rfl,rfl,a8,a7⟩:=hc
 simp only[Z0b,Z0f]at h
 obtain⟨rfl,rfl⟩:=h
 simp only[Rep]at hs
 obtain⟨hf,hg,a,a',cap,hdr,a9,a6,rfl,aa,z,a0⟩:=hs
 obtain⟨_,p2,_⟩:=hi.obj f _ hM
 obtain⟨_,q0,b,o,c,vs,q1,q2,_⟩:=p2 h' n (A3h hn)
 have d:=hdr
 rw[q1]at hdr
 simp only[Z0f,Z0b]at hdr
 obtain⟨rfl,rfl⟩:=hdr
 have ha:=a0 (by omega)
 subst ha
 have a4:news.length=m*s2:=by rw[<-l.length];exact j
 have hb:(lo+len)*s2+news.length<=n*s2:=by rw[a4,<-Z0L];exact Z0Y _ (by omega)
 obtain⟨a2,w',k,a1,h2,h3⟩:=B1m hi (f:=f) (g:=h') (off:=(lo+len)*s2) (x:=.pointer (some ⟨b,o+(lo+len)*s2,none⟩)) (by simp only[Rep];exact⟨hf,hg,_,c,d,rfl⟩) l i hM hn hb
 simp only[Z3P,Z0b]at k
 subst k
 have q:(storeCells ((⟨b,o+lo*s2,none⟩:Addr).add (len*s2)) a3).run C.P w=.ok () w':=by rw[Z1C,Z2j,<-Z0L];exact a1
 refine⟨_,w',C1g ht p hu y (a5 w rfl) (by omega) q,h2,?_,h3⟩
 simp only[Rep]
 exact⟨hf,hg,_,_,c,d,rfl,rfl,rfl,by omega,z,λ_=>rfl⟩
end
section
variable {C:Ctx} {G:A0r} {M:Mem} {w:World}
def A4o(P:Program)(b:Builtin)(ts:List TypeId)(args:List AV)(M:Mem):Option (AV×Mem):=match b,ts,args with
 |.clear,[t],[x]=>A7v P t M x
 |.unsafeSliceData,_,[x]=>(A4r M x).map λv=>(v,M)
 |.unsafeString,[pt,it],[p,n]=>A3q P pt M p n
 |_,_,_=>none
def B8o(hi:Inv C G M w){b}{ts}{args}{xs}(hr:A0u G args xs.toList){v}{M'}(h:A4o C.P b ts.toList args M=some (v,M'))(ty:TypeId)(a:Array Bool):∃u w',(builtin b ts ty a xs).run C.P w=.ok (.value u) w'/\Inv C G M' w'/\Rep G v u/\Ext w w':=by
 obtain⟨xs⟩:=xs
 obtain⟨ts⟩:=ts
 simp only at hr h
 unfold A4o at h
 split at h
 .simp only[A0u]at hr;obtain⟨y,_,rfl,hy,rfl⟩:=hr;obtain⟨r,w',h1,h2,h3,h4⟩:=C6L (ty:=ty) hi hy h;exact⟨r,w',by simp only[builtin,Z0F,h1,Z0w,Z0O],h2,h3,h4⟩
 .simp only[A0u]at hr;obtain⟨y,_,rfl,hy,rfl⟩:=hr;simp only[Z0j,Z0f]at h;obtain⟨v',hv,rfl,rfl⟩:=h;obtain⟨u,h1,h2⟩:=B7y hi hy ts.toArray ty hv;exact⟨u,w,by simp only[builtin,Z0F,h1,Z0w,Z0O],hi,h2,.refl _⟩
 .rename_i pt it p n;simp only[A0u]at hr;obtain⟨y,_,rfl,hy,y2,_,rfl,c,rfl⟩:=hr;obtain⟨r,w',h1,h2,h3,h4⟩:=B7D (ty:=ty) (it:=it) hi hy c h;exact⟨r,w',by simp only[builtin,Z0F,h1,Z0w,Z0O],h2,h3,h4⟩
 .simp at h
def A3N(C:Ctx)(o:Oper)(ρ:Operand->AV)(M:Mem):Option (AV×Mem):=match o.op with
 |.range t x=>A7X C.P t (ρ x) M
 |.next x true=>A7e (ρ x) M
 |.slice t x lo hi mx=>(A3w C.P t M (ρ x) (lo.map ρ) (hi.map ρ) (mx.map ρ)).map λv=>(v,M)
 |.convert s d x=>match B2T C.P s d (ρ x)with
  |some v=>some (v,M)
  |none=>(B8X C.P s d M (ρ x)).map λv=>(v,M)
 |.call {callee:=.builtin b,args,argTypes}=>A4o C.P b argTypes.toList (args.toList.map ρ) M
 |_=>none
def D7D(hi:Inv C G M w){o}{ρ:Operand->AV}{σ:Operand->Value}(hρ:∀x∈o.op.operands.toList,Rep G (ρ x) (σ x)){v}{M'}(h:A3N C o ρ M=some (v,M')):A3C C G w (execOp σ o) v M':=by
 obtain⟨dst,op,type,pos,after,guard⟩:=o;simp only at hρ;unfold A3N at h;simp only at h;split at h
 .rename_i t x;obtain⟨u,w',G',h1,h2,h3,h4,h5⟩:=C8h hi (hρ x (by simp[Op.operands])) h;exact⟨_,w',G',A3Q h1,.inl ⟨u,rfl,h4⟩,h2,h3,h5⟩
 .rename_i x;obtain⟨u,w',h1,h2,h3,h4⟩:=C8Q hi (hρ x (by simp[Op.operands])) type h;exact⟨_,w',G,A3Q h1,.inl ⟨u,rfl,h3⟩,.refl _,h2,h4⟩
 .rename_i t x lo hi' mx;simp only[Z0j,Z0f]at h;obtain⟨v',hv,rfl,rfl⟩:=h;have e:∀(y:Option Operand),(∀q,y=some q->Rep G (ρ q) (σ q))->∀a,y.map ρ=some a->∃z,y.map σ=some z/\Rep G a z:=λy hy a ha=>by
   cases y with
   |none=>simp at ha
   |some q=>simp at ha;subst ha;exact⟨_,rfl,hy q rfl⟩
  obtain⟨u,h1,h2⟩:=B7z (w:=w) hi (hρ x (by simp[Op.operands])) (e lo (λq hq=>hρ q (by simp[Op.operands,hq]))) (by cases lo<;>simp) (e hi' (λq hq=>hρ q (by simp[Op.operands,hq]))) (by cases hi'<;>simp) (e mx (λq hq=>hρ q (by simp[Op.operands,hq]))) (by cases mx<;>simp) hv;exact A3C.same hi (x:=u) (A3Q h1) h2
 .rename_i s d x;split at h
  .rename_i v' hv;simp only[Z0b,Z0f]at h;obtain⟨rfl,rfl⟩:=h;obtain⟨u,w',G',h1,h2,h3,h4,h5⟩:=C6I hi (hρ x (by simp[Op.operands])) hv;exact⟨_,w',G',A3Q h1,.inl ⟨u,rfl,h4⟩,h2,h3,h5⟩
  .simp only[Z0j,Z0f]at h;obtain⟨v',hv,rfl,rfl⟩:=h;obtain⟨u,h1,h2⟩:=C7G (w:=w) hi (hρ x (by simp[Op.operands])) hv;exact A3C.same hi (x:=u) (A3Q h1) h2
 .rename_i b args ts;have c:A0u G (args.toList.map ρ) (args.map σ).toList:=by have:=A8z (G:=G) args.toList (λx hx=>hρ x (by simp[Op.operands,Call.operands];simpa using hx));simpa using this
  obtain⟨u,w',h1,h2,h3,h4⟩:=B8o hi c h type (args.map λx=>x matches .const _);refine⟨.value u,w',G,?_,.inl ⟨u,rfl,h3⟩,.refl _,h2,h4⟩;simp only[execOp,resolve,Z0F,Z0O,Z0w,invoke];exact h1
 .simp at h
end
def A1u(C:Ctx)(h:A2r)(o:Oper)(ρ:Operand->AV)(M:Mem):Option (AV×Mem):=
 match o.op with
 |.load t x=>match ρ x with
  |.ptr b off=>((A2S M (.ptr b off)).bind (A1x C.P t)).map λv=>(v,M)
  |.vptr f g off=>((A2S M (.vptr f g off)).bind (A1x C.P t)).map λv=>(v,M)
  |_=>none
 |.store t a x=>match ρ a with
  |.ptr b off=>match M[b]? with
   |some (.cells bt cs)=>if(ρ x).storable&&decide (off+(ρ x).cells.length<=cs.length)&&decide (A1t C.P t=some (ρ x).cells.length)then some (.val undef,M.set b (.cells bt (A0e cs off (ρ x).cells)))else none
   |_=>none
  |.vptr f g off=>match M[f]? with
   |some (.vec vt sz cs g' hist)=>match hist.lookup g with
    |some n=>if(ρ x).storable&&decide (off+(ρ x).cells.length<=n*sz)&&decide (A1t C.P t=some (ρ x).cells.length)then some (.val undef,M.set f (.vec vt sz (A0e cs off (ρ x).cells) g' (A1w sz g off hist)))else none
    |none=>none
   |_=>none
  |_=>none
 |.alloc e=>match A0F C.P e with
  |some z=>if z.all (·.oneCell')then some (.ptr M.length 0,M++[.cells e (z.map .val)])else none
  |none=>none
 |.box e x=>if(ρ x).storable then some (.ptr M.length 0,M++[.cells e (ρ x).cells])else none
 |_=>none
def A0Q(C:Ctx)(h:A2r)(o:Oper)(ρ:Operand->AV)(M:Mem):Option (AV×Mem):=
 match A0E C h o ρ with
 |some v=>some (v,M)
 |none=>match A1u C h o ρ M with
  |some r=>some r
  |none=>match A1p C h o ρ M with
   |some r=>some r
   |none=>match A0Y C o ρ with
    |some v=>some (v,M)
    |none=>A3N C o ρ M
section
variable {C:Ctx} {G:A0r} {M:Mem} {w:World}
def D9z{P}{s}{w w'}(h:s.run P w=.ok () w'):(do s;pure .skip:Sem Next).run P w=.ok .skip w':=by simp only[Z0F,h,Z0w,Z0O]
def D2L(hi:Inv C G M w){o}{ρ:Operand->AV}{σ:Operand->Value}(hρ:∀x∈o.op.operands.toList,Rep G (ρ x) (σ x)){hn}{v}{M'}(h:A1u C hn o ρ M=some (v,M')):A3C C G w (execOp σ o) v M':=by
 obtain⟨dst,op,type,pos,after,guard⟩:=o;simp only at hρ;unfold A1u at h;simp only at h;split at h
 .rename_i t x;have hx:=hρ x (by simp[Op.operands]);split at h;case h_3=>simp at h
  all_goals
   rename_i he
   rw[he]at hx
   simp only[Z0j,Z1X,Z0f]at h
   obtain⟨r,⟨cs,c,hl⟩,rfl,rfl⟩:=h
   obtain⟨u,hu,i⟩:=B3W hi hx c hl
   exact A3C.same hi (x:=u) (A3Q hu) i
 .rename_i t a x;have ha:=hρ a (by simp[Op.operands]);have hx:=hρ x (by simp[Op.operands]);split at h;case h_3=>simp at h
  .rename_i b off he;rw[he]at ha;split at h;(case h_2=>simp at h);rename_i bt cs c;split at h;(case isFalse=>simp at h);rename_i hc;simp only[Z0g,Z0l]at hc;simp only[Z0b,Z0f]at h;obtain⟨rfl,rfl⟩:=h;obtain⟨w',h1,h2,h3⟩:=C6o hi ha hx c hc.1.1 hc.2 hc.1.2;exact⟨_,w',G,D9z h1,.inr ⟨rfl,rfl⟩,.refl _,h2,h3⟩
  .rename_i f g off he;rw[he]at ha;split at h;(case h_2=>simp at h);rename_i vt sz cs g' hist hM;split at h;(case h_2=>simp at h);rename_i n hn;split at h;(case isFalse=>simp at h);rename_i hc;simp only[Z0g,Z0l]at hc;simp only[Z0b,Z0f]at h;obtain⟨rfl,rfl⟩:=h;obtain⟨w',h1,h2,h3⟩:=C4u hi ha hx hM hn hc.1.1 hc.2 hc.1.2;exact⟨_,w',G,D9z h1,.inr ⟨rfl,rfl⟩,.refl _,h2,h3⟩
 .rename_i e;split at h;case h_2=>simp at h
  rename_i z hz;split at h;case isFalse=>simp at h
  rename_i hall;simp only[Z0b,Z0f]at h;obtain⟨rfl,rfl⟩:=h;obtain⟨zv,hv,d,j⟩:=B0m (P:=C.P) hz G w;obtain⟨G',h1,h2,h3,h4⟩:=hi.newBox e (vs:=zv.cells) (by rw[d];exact j) (λy hy=>by rw[d]at hy;exact Z0u.1 hall y hy);refine⟨_,_,G',A3Q (v:=.pointer (some ⟨w.heap.size,0,none⟩)) (w':=w.alloc (.cells zv.cells e)) ?_,.inl ⟨_,rfl,by simp only[Rep];exact⟨h4,by rw[h3]⟩⟩,h2,h1,Ext.alloc _ _⟩;simp only[Instr.alloc,Z0F,hv,Z0w,newVar,newRow,Z3I,Z0O];rfl
 .rename_i e x;have hx:=hρ x (by simp[Op.operands]);split at h;case isFalse=>simp at h
  rename_i hs;simp only[Z0b,Z0f]at h;obtain⟨rfl,rfl⟩:=h;obtain⟨c1,c2⟩:=hx.cells hs;obtain⟨G',h1,h2,h3,h4⟩:=hi.newBox e (vs:=(σ x).cells) c1 c2;refine⟨_,_,G',A3Q (v:=.pointer (some ⟨w.heap.size,0,none⟩)) (w':=w.alloc (.cells (σ x).cells e)) ?_,.inl ⟨_,rfl,by simp only[Rep];exact⟨h4,by rw[h3]⟩⟩,h2,h1,Ext.alloc _ _⟩;simp only[Instr.box,newVar,newRow,Z0F,Z3I,Z0w,Z0O];rfl
 .simp at h
def C3X(hi:Inv C G M w){o}{ρ:Operand->AV}{σ:Operand->Value}(hρ:∀x∈o.op.operands.toList,Rep G (ρ x) (σ x)){hn}{v}{M'}(h:A0Q C hn o ρ M=some (v,M')):A3C C G w (execOp σ o) v M':=by
 unfold A0Q at h;split at h
 .rename_i u hu;simp only[Z0b,Z0f]at h;obtain⟨rfl,rfl⟩:=h;exact C8q hi hρ hu
 .split at h
  .rename_i r hr;simp only[Z0b]at h;subst h;exact D2L hi hρ hr
  .split at h
   .rename_i r hr;simp only[Z0b]at h;subst h;exact C9r hi hρ hr
   .split at h
    .rename_i u hu;simp only[Z0b,Z0f]at h;obtain⟨rfl,rfl⟩:=h;exact B7l hi hρ hu
    .exact D7D hi hρ h
end
def B7O(vec:Bool):AV->Bool
 |.vref _ _ _ _ _=>true
 |.val (.slice none 0 0)=>vec
 |.list _ [] .full=>vec
 |_=>false
def B7M(sz:Nat):AV->Bool
 |.list s _ _=>s==sz
 |_=>true
def B2x{sz}{v}:B7M sz v=true<->B0Q sz v:=by cases v<;>simp[B7M,B0Q]
def A7S(own vec:Bool)(e:TypeId)(sz bytes:Nat)(s x:AV)(M:Mem):Option (AV×Mem):=
 if B7O vec s then match A0A M sz s,A0A M sz x with
  |some (_,k),some (_,m)=>if(k+m)*bytes<=140737488355328 then(match A6B e sz s x M with|some r=>some r|none=>A7N e sz s x M)else none
  |_,_=>none
 else if B7M sz s&&B7M sz x&&decide ((A9i s+A9i x)*bytes<=140737488355328)then A7G own sz s x M else none
def C4i{C}{G}{M}{w}(hi:Inv C G M w){s x}{sv xv}(hs:Rep G s sv)(hx:Rep G x xv){t u e ty:TypeId}{sz bytes}(ht:A1h C.P t=some e)(hu:A4f C.P u)
 (he:A3y C.P e sz bytes){own vec}{v}{M'}(h:A7S own vec e sz bytes s x M=some (v,M')):
 ∃r w' G',(Builtin.append_ #[t,u] ty #[sv,xv]).run C.P w=.ok r w'/\G.le G'/\Inv C G' M' w'/\Rep G' v r/\Ext w w':=by
 unfold A7S at h
 split at h
 .split at h
  .rename_i cs k news m h1 h2;split at h;(case isFalse=>simp at h);rename_i hb;split at h
   .rename_i r hr;simp only[Z0b]at h;subst h;obtain⟨i,z,a,hz,b,_⟩:=he;obtain⟨r,w',k1,k2,k3,k4⟩:=C4Y (ty:=ty) hi hs hx (A2w ht) hu (by simp[A1t,a,b]) hr;exact⟨r,w',G,k1,.refl _,k2,k3,k4⟩
   refine C9s hi hs hx (A2w ht) hu he (λc k' e1 news' m' e2=>?_) h;rw[h1]at e1;rw[h2]at e2;simp only[Z0b,Z0f]at e1 e2;rw[<-e1.2,<-e2.2];exact hb
  .simp at h
 .split at h
  .rename_i hc;simp only[Z0g,Z0l,B2x]at hc;exact C4p hi hs hx hc.1.1 hc.1.2 h ty ht hu he hc.2
  .simp at h
def B8F(P:Program)(t u:TypeId)(sz bytes:Nat)(e:TypeId):Prop:=A1h P t=some e/\A4f P u/\A3y P e sz bytes
def D5H(P:Program)(g:FuncId):Prop:=∀(args:Array Value) (w:World),(callFunc g args).run P w=.ok (.enter g args) w
def C5h(C:Ctx)(g:FuncId)(args:List AV)(M:Mem)(Q:AV->Mem->Prop):Prop:=∀G w (vs:List Value),Inv C G M w->A0u G args vs->∃x w' G' r M',(callFunc g vs.toArray).run C.P w=.ok (.value x) w'/\Q r M'/\G.le G'/\Inv C G' M' w'/\Rep G' r x/\Ext w w'
def C5h.mono{C}{g}{args}{M}{Q Q':AV->Mem->Prop}(h:C5h C g args M Q)(hq:∀r m,Q r m->Q' r m):C5h C g args M Q':=by intro G w vs hi hr;obtain⟨x,w',G',r,M',h1,h2,h3⟩:=h G w vs hi hr;exact⟨x,w',G',r,M',h1,hq _ _ h2,h3⟩
def A4A(C:Ctx)(g:FuncId)(args:List AV)(M:Mem)(Q:AV->Mem->Prop):Prop:=(D5H C.P g/\A0c C g args M Q)\/C5h C g args M Q
def A4A.mono{C}{g}{args}{M}{Q Q':AV->Mem->Prop}(h:A4A C g args M Q)(hq:∀r m,Q r m->Q' r m):A4A C g args M Q':=h.imp (λh=>⟨h.1,h.2.mono hq⟩) (λh=>h.mono hq)
def A9q(P:Program)(op:BinOp)(t:TypeId)(x y:AV):Bool:=
 match x,y with
 |.list _ [] _,.val (.slice none 0 0)=>(match op with|.eql|.neq=>true|_=>false)&&(match P.underlying t with|some (.slice _)=>true|_=>false)
 |_,_=>false
def B0p(C:Ctx)(o:Oper)(ρ:Operand->AV):Bool:=match o.op with
 |.binOp op t x y _=>A9q C.P op t (ρ x) (ρ y)
 |_=>false
def A4D(C:Ctx)(h:A2r)(o:Oper)(K:AV->Mem->Prop)(ρ:Operand->AV)(M:Mem):Prop:=
 match o.op with
 |.call {callee:=.value f,args,..}=>match ρ f with
  |.func (.func g) first captured=>A4A C g (first++args.toList.map ρ++captured) M K
  |_=>False
 |.call {callee:=.builtin .append,args,argTypes}=>match args.toList,argTypes.toList with
  |[s,x],[t,u]=>∃e sz bytes,B8F C.P t u sz bytes e/\
   match A7S (A2y h.own o.dst) (A2y h.vec o.dst) e sz bytes (ρ s) (ρ x) M with
   |some (v,M')=>K v M'
   |none=>False
  |_,_=>False
 |_=>match A0Q C h o ρ M with
  |some (v,M')=>K v M'
  |none=>B0p C o ρ=true/\∀b,K (.val (.bool b)) M
def B0z(C:Ctx)(G:A0r)(w:World)(o:Oper)(a:Act)(K:AV->Mem->Prop):Prop:=∀(next:Act->World->Prop) (Q:Exit->Act->World->Prop),(∀v M' G' w' x,K v M'->G.le G'->Inv C G' M' w'->Rep G' v x->Ext w w'->next (a.put o.dst x) w')->o.wp C.P a w next Q
def A6c{C}{G}{M}{w}(hi:Inv C G M w){h}{o}{ρ:Operand->AV}{a}(hρ:∀x∈o.op.operands.toList,Rep G (ρ x) (a.eval x)){K:AV->Mem->Prop}(hv:A4D C h o K ρ M):B0z C G w o a K:=by
 intro next Q hK
 have l:∀v M',A0Q C h o ρ M=some (v,M')->K v M'->o.wp C.P a w next Q:=by
  intro v M' he hk;obtain⟨nx,w',G',h1,h2,h3,h4,h5⟩:=C3X hi hρ he;unfold Oper.wp;rw[h1];rcases h2 with⟨x,rfl,hr⟩|⟨rfl,rfl⟩
  .exact hK v M' G' w' x hk h3 h4 hr h5
  .exact hK _ M' G' w' undef hk h3 h4 (by simp[Rep]) h5
 obtain⟨dst,op,type,pos,after,guard⟩:=o;unfold A4D at hv;simp only at hv;split at hv
 .rename_i f args ts;split at hv;case h_2=>exact hv.elim
  rename_i g first captured hf
  have m:=hρ f (by simp[Op.operands,Call.operands]);rw[hf]at m;simp only[Rep]at m;obtain⟨fs,cs,p,a3,a0⟩:=m;have j:A0u G (args.toList.map ρ) (args.toList.map a.eval):=A8z args.toList (λx hx=>hρ x (by simp[Op.operands,Call.operands];simp at hx;simp[hx]));have i:=(a3.append j).append a0;have e:(fs.toList++args.toList.map a.eval++cs.toList).toArray=fs++args.map a.eval++cs:=by apply Z1N;simp
  rcases hv with⟨a2,hc⟩|hc;case inr=>obtain⟨x,w',G',r,M',q1,q2,q3,q4,q5,q6⟩:=hc G w _ hi i;rw[e]at q1;unfold Oper.wp;(have c:(execOp a.eval {dst:=dst,op:=.call {callee:=.value f,args:=args,argTypes:=ts},type:=type,pos:=pos,after:=after,guard:=guard}).run C.P w=.ok (.value x) w':=by simp only[execOp,resolve,p,Deferred.ofValue,Z0F,Z0O,Z0w,invoke];exact q1);rw[c];exact hK r M' G' w' x q2 q3 q4 q5 q6
  have k:=hc G w _ hi i;unfold Oper.wp;have c:(execOp a.eval {dst:=dst,op:=.call {callee:=.value f,args:=args,argTypes:=ts},type:=type,pos:=pos,after:=after,guard:=guard}).run C.P w=.ok (.enter g (fs++args.map a.eval++cs)) w:=by simp only[execOp,resolve,p,Deferred.ofValue,Z0F,Z0O,Z0w,invoke];exact a2 _ w
  rw[c];rw[e]at k;simp only[Oper.upon_enter];refine k.mono ?_;rintro e' w' ⟨r,M',G',v,rfl,k1,k2,k3,k4,k5⟩;exact hK r M' G' w' v k1 k2 k3 k4 k5
 .rename_i args ts;split at hv;case h_2=>exact hv.elim
  rename_i s x t u ha ht;obtain⟨e,sz,bytes,⟨he,hu,a1⟩,hm⟩:=hv;split at hm;case h_2=>exact hm.elim
  rename_i v M' hap;have j:args=#[s,x]:=by apply Z1N;simpa using ha
  have a4:ts=#[t,u]:=by apply Z1N;simpa using ht
  subst j;subst a4;have h1:=hρ s (by simp[Op.operands,Call.operands]);have h2:=hρ x (by simp[Op.operands,Call.operands]);obtain⟨rv,w',G',k1,k2,k3,k4,k5⟩:=C4i (ty:=type) hi h1 h2 he hu a1 hap;unfold Oper.wp;have c:(execOp a.eval {dst:=dst,op:=.call {callee:=.builtin .append,args:=#[s,x],argTypes:=#[t,u]},type:=type,pos:=pos,after:=after,guard:=guard}).run C.P w=.ok (.value rv) w':=by simp only[execOp,resolve,Z0F,Z0O,Z0w,invoke,builtin,List.map_toArray,Z0s,Z2c,k1]
  rw[c];exact hK v M' G' w' rv hm k2 k3 k4 k5
 .split at hv
  .rename_i v M' he;exact l v M' he hv
  .obtain⟨hn,i⟩:=hv;unfold B0p at hn;split at hn;(case h_2=>simp at hn);rename_i bop t x y yt hop;simp only at hop;subst hop;unfold A9q at hn;split at hn;(case h_2=>simp at hn);rename_i sz own hx hy;simp only[Z0g]at hn;obtain⟨n,z⟩:=hn;have h1:=hρ x (by simp[Op.operands]);have h2:=hρ y (by simp[Op.operands]);rw[hx]at h1;rw[hy]at h2;simp only[Rep]at h1 h2;obtain⟨base,cap,q,_,_,_,_⟩:=h1;split at z;(case h_2=>simp at z);rename_i e hu;have hr:=A3H (P:=C.P) (t:=t) (xv:=a.eval x) (yv:=a.eval y) (ox:=x) (oy:=y) (b:=base.isNone) (w:=w) (λd=>by rw[q,h2];exact A5L hu d _ _ _ w) (.inr (.inl ⟨_,_,_,q⟩)) (.inr (.inl ⟨_,_,_,h2⟩));unfold Oper.wp;split at n
   .have:=A3Q hr.1;simp only[execOp];rw[this];exact hK _ M G w _ (i base.isNone) (.refl _) hi (by simp[Rep]) (.refl _)
   .have:=A3Q hr.2;simp only[execOp];rw[this];exact hK _ M G w _ (i (!base.isNone)) (.refl _) hi (by simp[Rep]) (.refl _)
   .simp at n
def Oper.inside(N:Nat)(o:Oper):Bool:=o.op.operands.toList.all (Operand.inside N)
def A2B(ops:Array Oper)(o:Oper)(T:Env)(run skip:Prop):Prop:=
 match o.guard with
 |none=>run
 |some (j,want)=>match(ops[j]?).bind (·.dst)with
  |some d=>match T d with
   |.val (.bool b)=>if b=want then run else skip
   |.val (.tuple _)=>skip
   |_=>False
  |none=>False
def A9U(C:Ctx)(h:A2r)(ops:Array Oper):List Oper->(Env->Mem->Prop)->Env->Mem->Prop
 |[],K,T,M=>K T M
 |o::rest,K,T,M=>A2B ops o T (A4D C h o (λv M'=>A9U C h ops rest K (T.put o.dst v) M') (T.ev C) M) (A9U C h ops rest K (T.put o.dst (.val undef)) M)
def B2G(N:Nat)(ops:Array Oper)(o:Oper):Bool:=match o.guard with
 |none=>true
 |some (j,_)=>match(ops[j]?).bind (·.dst)with
  |some d=>decide (d<N)
  |none=>true
def A2q(N:Nat)(ops:Array Oper)(l:List Oper):Bool:=l.all λo=>Oper.inside N o&&B2G N ops o
def A9e{C}{G}{M}{w}{N}{T}{a}(hi:Inv C G M w)(he:A3d G N T a){o}(h:Oper.inside N o=true):∀x∈o.op.operands.toList,Rep G (T.ev C x) (a.eval x):=λx hx=>D4h hi he x (Z0u.1 h x hx)
def B2j{C:Ctx}{G:A0r}{M:Mem}{w:World}{N:Nat}{T:Env}{a:Act}(he:A3d G N T a){ops:Array Oper}{o:Oper}(hg:B2G N ops o=true){run skip:Prop}(h:A2B ops o T run skip):(Region.wanted o (yielded ops a.tmps)=true/\run)\/(Region.wanted o (yielded ops a.tmps)=false/\skip):=by
 unfold A2B at h
 unfold B2G at hg
 unfold Region.wanted
 split at h
 .rename_i hn;rw[hn];exact .inl ⟨rfl,h⟩
 .rename_i j want hs;rw[hs]at hg|-;simp only at hg;split at h;case h_2=>exact h.elim
  rename_i d hd;rw[hd]at hg;simp only[Z0l]at hg;have hr:=he.at_ d hg;have g:=he.size;have f:d<a.tmps.size:=g▸hg;obtain⟨x,hx,c⟩:∃x,a.tmps[d]?=some x/\Rep G (T d) x:=⟨a.tmps[d],Z0R f,by simpa[Array.getD,f]using hr⟩;have hy:yielded ops a.tmps j=match(generalizing:=false) x with|.bool b=>some b|_=>none:=by unfold yielded;simp only[hd,Z2U,hx];cases x<;>rfl
  split at h
  .rename_i b hb;rw[hb]at c;simp only[Rep]at c;subst c;simp only[hy];by_cases e:b=want
   .rw[Z0d e]at h;exact .inl ⟨by simp[e],h⟩
   .rw[Z0c e]at h;exact .inr ⟨by simp[e],h⟩
  .rename_i vs hb;rw[hb]at c;simp only[Rep]at c;subst c;simp only[hy];exact .inr ⟨by simp,h⟩
  .exact h.elim
def B2A{C:Ctx}{N:Nat}{h:A2r}{ops:Array Oper}{Q:Exit->Env->Mem->Prop}:∀(l:List Oper) (G0:A0r) (w0:World) (G:A0r) (T:Env) (M:Mem) (w:World) (a:Act),
 A2q N ops l=true->A9U C h ops l (λT M=>Q .normal T M) T M->G0.le G->Ext w0 w->Inv C G M w->A3d G N T a->wpList C.P ops (B5R C N Q G0 w0) l a w
 |[],G0,w0,G,T,M,w,a,_,hv,hle,hext,hi,he=>⟨T,M,G,hv,hle,hi,he,hext⟩
 |o::rest,G0,w0,G,T,M,w,a,hin,hv,hle,hext,hi,he=>by
  simp only[A2q,Z1D,Z0g]at hin;obtain⟨⟨ho,hg⟩,c⟩:=hin;have b:A2q N ops rest=true:=by simpa[A2q]using c
  simp only[A9U]at hv;simp only[wpList];rcases B2j (C:=C) (M:=M) (w:=w) he hg hv with⟨hw,hr⟩|⟨hw,hs⟩
  .rw[Z0d hw];left;refine A6c hi (A9e hi he ho) hr _ _ ?_;intro v M' G' w' x hk h1 h2 h3 h4;exact B2A rest G0 w0 G' _ M' w' _ b hk (hle.trans h1) (hext.trans h4) h2 ((he.mono h1).put h3)
  .rw[Z0c (by simp[hw])];exact B2A rest G0 w0 G _ M w _ b hs hle hext hi (he.put (by simp[Rep]))
def C0y{C}{N}{h}{id}{ops}{Q:Exit->Env->Mem->Prop}{T}{M}(b:A2q N ops ops.toList=true)(hv:A9U C h ops ops.toList (λT M=>Q .normal T M) T M):
 AWp C N (.region id ops false) Q T M:=
 λG w a hi he=>wp_region_list (B2A ops.toList G w G T M w a b hv (.refl _) (.refl _) hi he)
def D0Y(C:Ctx)(T:Env)(M:Mem):ResultVar->Option AV
 |.tmp t=>some (T t)
 |.cell a ty=>(A2S M (T a)).bind (A1x C.P ty)
def A9l(C:Ctx)(T:Env)(M:Mem):List ResultVar->Option (List AV)
 |[]=>some []
 |r::rs=>match D0Y C T M r,A9l C T M rs with
  |some v,some vs=>some (v::vs)
  |_,_=>none
def A5o(C:Ctx)(rs:List ResultVar)(T:Env)(M:Mem):Option AV:=
 match A9l C T M rs with
 |some [v]=>some v
 |some vs=>some (.tuple vs)
 |none=>none
def A6j(N:Nat):List ResultVar->Bool
 |[]=>true
 |.tmp t::rs=>decide (t<N)&&A6j N rs
 |.cell a _::rs=>decide (a<N)&&A6j N rs
def B4G(C:Ctx)(rs:List ResultVar)(Q:AV->Mem->Prop):Exit->Env->Mem->Prop
 |.normal,T,M|.ret,T,M=>match A5o C rs T M with
  |some r=>Q r M
  |none=>False
 |_,_,_=>False
def C0Y(tmps:Array Value):ResultVar->Sem Value
 |.tmp t=>pure (tmps.getD t undef)
 |.cell b t=>do loadVar t (<-asAddr (tmps.getD b undef))
def C0V(fn:Func)(tmps:Array Value):results fn tmps=(do
 let vs <-fn.results.mapM (C0Y tmps)
 pure (if h:vs.size=1 then vs[0]else .tuple vs)):=by
 unfold results
 congr 1
def A9w{C}{G}{M}{w}{N}{T}{a}(hi:Inv C G M w)(he:A3d G N T a):∀(rs:List ResultVar) (vs:List AV),A6j N rs=true->A9l C T M rs=some vs->
 ∃xs,(rs.mapM (C0Y a.tmps)).run C.P w=.ok xs w/\A0u G vs xs
 |[],vs,_,h=>by simp[A9l]at h;subst h;exact⟨[],by simp,by simp[A0u]⟩
 |r::rs,vs,hin,h=>by
  simp only[A9l]at h;split at h;case h_2=>simp at h
  rename_i v vs' h1 h2;simp only[Z0b]at h;subst h;cases r with
  |tmp t=>simp only[A6j,Z0g,Z0l]at hin;obtain⟨xs,q1,q2⟩:=A9w hi he rs vs' hin.2 h2;simp only[D0Y,Z0b]at h1;subst h1;refine⟨a.tmps.getD t undef::xs,?_,by simp only[A0u];exact⟨_,_,rfl,he.at_ t hin.1,q2⟩⟩;simp only[Z3v,C0Y,Z0F,Z0O,Z0w,q1]
  |cell b ty=>simp only[A6j,Z0g,Z0l]at hin;obtain⟨xs,q1,q2⟩:=A9w hi he rs vs' hin.2 h2;simp only[D0Y,Z1X]at h1;obtain⟨cs,c,hl⟩:=h1;have hr:=he.at_ b hin.1;obtain⟨u,hu,d⟩:=B3W hi hr c hl;obtain⟨bb,ii,_,hp,_⟩:=C1L hi hr c;refine⟨u::xs,?_,by simp only[A0u];exact⟨_,_,rfl,d,q2⟩⟩;rw[hp]at hu;simp only[Instr.loadAt,Instr.sureAddr,Z0F,Z0O,Z0w]at hu;simp only[Z3v,C0Y,Z0F,Z0O,Z0w,hp,asAddr,hu,q1]
def A8F{C}{f}{fn}{c}{args}{M}{Q:AV->Mem->Prop}{N}{rs}(hf:C.P.funcs[f]?=some fn)(hb:fn.body=some c)(hN:fn.ntmps=N)(d:fn.results=rs.toArray) (hn:decide (args.length<=N)=true)(g:A6j N rs=true)(h:AWp C N c (B4G C rs Q) (Env.of args) M):A0c C f args M Q:=by
 intro G w vs hi hr
 have j:=hr.length
 simp only[Z0l]at hn
 refine calls_of_wp hf hb ?_
 have he:=A3d.of (G:=G) (N-vs.length) hr
 rw[show vs.length+(N-vs.length)=N from by omega]at he
 have hw:=h G w _ hi he
 rw[hN]
 refine Z4w (by simpa using hw) ?_
 rintro e a' w' ⟨T',M',G',h1,h2,h3,h4,h5⟩
 have key:B4G C rs Q .ret T' M'->a'.defers=[]/\∃v,(results fn a'.tmps).run C.P w'=.ok v w'/\∃r M' G' v',Ending.returned v=.returned v'/\Q r M'/\G.le G'/\Inv C G' M' w'/\Rep G' r v'/\Ext w w':=by
  intro hq;refine⟨h4.defers,?_⟩;simp only[B4G]at hq;split at hq;case h_2=>exact hq.elim
  rename_i r hres;unfold A5o at hres;have a:∀vs',A9l C T' M' rs=some vs'->∃xs,(fn.results.mapM (C0Y a'.tmps)).run C.P w'=.ok xs.toArray w'/\A0u G' vs' xs:=by intro vs' i;obtain⟨xs,q1,q2⟩:=A9w h3 h4 rs vs' g i;refine⟨xs,?_,q2⟩;rw[d];simp only[Z4a,Sem.run_map,q1,Z0w]
  cases hrl:A9l C T' M' rs with
  |none=>rw[hrl]at hres;simp at hres
  |some vs'=>
   rw[hrl]at hres;obtain⟨xs,q1,q2⟩:=a vs' hrl;have hl:=q2.length;by_cases h1':vs'.length=1
   .match vs',h1' with
    |[v],_=>simp only[Z0b]at hres;subst hres;simp only[A0u]at q2;obtain⟨x,_,rfl,hx,rfl⟩:=q2;exact⟨x,by simp only[C0V,Z0F,q1,Z0w,Z0O];simp,v,M',G',x,rfl,hq,h2,h3,hx,h5⟩
   .have b:r=.tuple vs':=by
     split at hres
     .rename_i v hv;cases hv;simp at h1'
     .rename_i vs'' _ hv;simp only[Z0b]at hv hres;subst hv;exact hres.symm
     .rename_i hv;simp at hv
    subst b;refine⟨.tuple xs.toArray,by simp only[C0V,Z0F,q1,Z0w,Z0O];simp[hl,h1'],_,M',G',_,rfl,hq,h2,h3,by simp only[Rep];exact⟨_,rfl,by simpa using q2⟩,h5⟩
 cases e with
 |normal=>exact key h1
 |ret=>exact key h1
 |exit id=>exact h1.elim
 |goto l=>exact h1.elim
 |panic ch=>exact h1.elim
 |outgrown=>exact h1.elim
def A4T(C:Ctx)(h:A2r)(N:Nat):Code->(Exit->Env->Mem->Prop)->Env->Mem->Prop
 |.skip,Q,T,M=>Q .normal T M
 |.label _,Q,T,M=>Q .normal T M
 |.region id ops draw,Q,T,M=>if draw=true then AWp C N (.region id ops true) Q T M else A9U C h ops ops.toList (λT M=>Q .normal T M) T M
 |.seq x y,Q,T,M=>A4T C h N x (B6H (A4T C h N y Q) Q) T M
 |.cond c x y,Q,T,M=>match T.ev C c with
  |.val (.bool b)=>if b=true then A4T C h N x Q T M else A4T C h N y Q T M
  |_=>False
 |.block id c,Q,T,M=>A4T C h N c (A9W id Q) T M
 |.exit id,Q,T,M=>Q (.exit id) T M
 |.ret,Q,T,M=>Q .ret T M
 |c,Q,T,M=>AWp C N c Q T M
def A1W(N:Nat):Code->Bool
 |.region _ ops draw=>draw||A2q N ops ops.toList
 |.seq x y=>A1W N x&&A1W N y
 |.cond c x y=>Operand.inside N c&&A1W N x&&A1W N y
 |.block _ c=>A1W N c
 |_=>true
def A5B{C:Ctx}{h:A2r}{N:Nat}:∀(c:Code) (Q:Exit->Env->Mem->Prop) (T:Env) (M:Mem),A1W N c=true->A4T C h N c Q T M->AWp C N c Q T M
 |.skip,Q,T,M,_,hv=>C6G hv
 |.label _,Q,T,M,_,hv=>C2Q hv
 |.region id ops draw,Q,T,M,hin,hv=>by
  simp only[A4T]at hv;cases draw with
  |true=>simpa using hv
  |false=>exact C0y (by simpa[A1W]using hin) (by simpa using hv)
 |.seq x y,Q,T,M,hin,hv=>by
  simp only[A1W,Z0g]at hin;simp only[A4T]at hv;refine B7N ((A5B x _ T M hin.1 hv).mono ?_);intro e T' M' hq;cases e with
  |normal=>exact A5B y Q T' M' hin.2 hq
  |_=>exact hq
 |.cond c x y,Q,T,M,hin,hv=>by
  simp only[A1W,Z0g]at hin;simp only[A4T]at hv;split at hv
  .rename_i b hb;refine C6V hin.1.1 hb (λe=>?_) (λe=>?_)
   .rw[Z0d e]at hv;exact A5B x Q T M hin.1.2 hv
   .rw[Z0c (by simp[e])]at hv;exact A5B y Q T M hin.2 hv
  .exact hv.elim
 |.block id c,Q,T,M,hin,hv=>C3q (A5B c _ T M (by simpa[A1W]using hin) hv)
 |.exit id,Q,T,M,_,hv=>C6Y hv
 |.ret,Q,T,M,_,hv=>D0z hv
 |.loop c,Q,T,M,_,hv=>hv
 |.rangeFunc _ _ _ _,Q,T,M,_,hv=>hv
 |.scope _,Q,T,M,_,hv=>hv
 |.goto _,Q,T,M,_,hv=>hv
 |.refuse _,Q,T,M,_,hv=>hv
def B6o:Op->Bool
 |.call _=>true
 |_=>false
def A0U{α:Type}(o:Option α)(f:α->Prop):Prop:=match o with
 |some v=>f v
 |none=>False
@[simp] def C5v{α:Type}(v:α)(f:α->Prop):A0U (some v) f=f v:=rfl
@[simp] def D9y{α:Type}(f:α->Prop):A0U none f=False:=rfl
section
variable {C:Ctx} {h:A2r} {N:Nat} {Q:Exit->Env->Mem->Prop} {T:Env} {M:Mem} {K:AV->Mem->Prop} {ρ:Operand->AV}
def D8A:A4T C h N .skip Q T M=Q .normal T M:=rfl
def C2o{id:Nat}{l:List Oper}:A4T C h N (.region id l.toArray false) Q T M=A9U C h l.toArray l (λT M=>Q .normal T M) T M:=rfl
def D4i{x y:Code}:A4T C h N (.seq x y) Q T M=A4T C h N x (B6H (A4T C h N y Q) Q) T M:=rfl
def D7K{c:Operand}{x y:Code}{b:Bool}(hc:T.ev C c=.val (.bool b)):A4T C h N (.cond c x y) Q T M=if b=true then A4T C h N x Q T M else A4T C h N y Q T M:=by simp only[A4T,hc]
def D9P:A4T C h N .ret Q T M=Q .ret T M:=rfl
def B4Q{K:Env->Mem->Prop}:B6H K Q .normal T M=K T M:=rfl
def D3E{K:Env->Mem->Prop}:B6H K Q .ret T M=Q .ret T M:=rfl
def C3z{rs}{Q:AV->Mem->Prop}:B4G C rs Q .ret T M=A0U (A5o C rs T M) (λr=>Q r M):=by simp only[B4G,A0U];cases A5o C rs T M<;>rfl
def C4G{rs}{Q:AV->Mem->Prop}:B4G C rs Q .normal T M=A0U (A5o C rs T M) (λr=>Q r M):=by simp only[B4G,A0U];cases A5o C rs T M<;>rfl
@[simp] def E8B{t:Nat}:T.ev C (.tmp t)=T t:=rfl
@[simp] def E3O{v}:T.ev C (.const v)=.val v:=rfl
@[simp] def E1J{g}:T.ev C (.global g)=C.gl g:=rfl
@[simp] def E6h{f:Nat}:T.ev C (.func f)=.func (.func f) [] []:=rfl
@[simp] def E8b{d j}{v}:T.put (some d) v j=if j=d then v else T j:=rfl
def C3d{ops:Array Oper}{K:Env->Mem->Prop}:A9U C h ops [] K T M=K T M:=rfl
def B7Z{ops:Array Oper}{o:Oper}{a:List Oper}{K:Env->Mem->Prop}:A9U C h ops (o::a) K T M=A2B ops o T (A4D C h o (λv M'=>A9U C h ops a K (T.put o.dst v) M') (T.ev C) M) (A9U C h ops a K (T.put o.dst (.val undef)) M):=rfl
def A4S{ops:Array Oper}{d:Option Tmp}{op:Op}{t:TypeId}{p:String}{af:Array Edge}{run skip:Prop}:A2B ops ⟨d,op,t,p,af,none⟩ T run skip=run:=rfl
variable {d:Option Tmp} {t:TypeId} {p:String} {af:Array Edge} {g:Option (Nat×Bool)}
def C2V{x:Operand}:A4D C h ⟨d,.move x,t,p,af,g⟩ K ρ M=K (ρ x) M:=rfl
def B7n{x:Operand}:A4D C h ⟨d,.assign x,t,p,af,g⟩ K ρ M=K (ρ x) M:=rfl
def A3A{op}(a:B6o op=false)(hn:B0p C ⟨d,op,t,p,af,g⟩ ρ=false):A4D C h ⟨d,op,t,p,af,g⟩ K ρ M=A0U (A0Q C h ⟨d,op,t,p,af,g⟩ ρ M) (λx=>K x.1 x.2):=by
 have e:A4D C h ⟨d,op,t,p,af,g⟩ K ρ M=(match A0Q C h ⟨d,op,t,p,af,g⟩ ρ M with|some (v,M')=>K v M'|none=>B0p C ⟨d,op,t,p,af,g⟩ ρ=true/\∀b,K (.val (.bool b)) M):=by cases op<;>first|exact Bool.noConfusion a|rfl
 rw[e,hn];cases A0Q C h ⟨d,op,t,p,af,g⟩ ρ M with
 |none=>simp
 |some x=>rfl
def D1n(C:Ctx)(o:Oper)(ρ:Operand->AV)(M:Mem):Option (AV×Mem):=match A0Y C o ρ with
 |some v=>some (v,M)
 |none=>A3N C o ρ M
def B1g{o}(b:A1p C h o ρ M=none)(a:D1n C o ρ M=none):A0Q C h o ρ M=match A0E C h o ρ with
 |some v=>some (v,M)
 |none=>A1u C h o ρ M:=by
 unfold A0Q
 rw[b]
 change(match A0E C h o ρ with|some v=>some (v,M)|none=>match A1u C h o ρ M with|some r=>some r|none=>D1n C o ρ M)=_
 rw[a]
 cases A0E C h o ρ with
 |some v=>rfl
 |none=>cases A1u C h o ρ M<;>rfl
def B4W(P:Program)(op:BinOp)(t:TypeId)(x y:AV)(f:AV->Prop):Prop:=match A1z P op t x y with
 |some v=>f v
 |none=>A9q P op t x y=true/\∀b,f (.val (.bool b))
def C7P(C:Ctx)(o:Oper)(ρ:Operand->AV)(op:BinOp)(t:TypeId)(x y:AV)(f:AV->Prop):Prop:=match(A1z C.P op t x y).or (A0Y C o ρ)with
 |some v=>f v
 |none=>A9q C.P op t x y=true/\∀b,f (.val (.bool b))
def A6f{P}{op}{t:TypeId}{x y}{f:AV->Prop}(h:A9q P op t x y=false):B4W P op t x y f=A0U (A1z P op t x y) f:=by unfold B4W A0U;rw[h];cases A1z P op t x y<;>simp
def B8a(c a b:AV):Option AV:=match c with
 |.val (.bool t)=>some (if t then a else b)
 |_=>none
@[simp] def D9x{t}{a b}:B8a (.val (.bool t)) a b=some (if t=true then a else b):=rfl
def B7t:AV->Option AV
 |.ptr b off=>some (.ptr b off)
 |.cptr cs=>some (.cptr cs)
 |.func (.func f) a c=>some (.func (.func f) a c)
 |.vptr f g off=>some (.vptr f g off)
 |_=>none
@[simp] def E0j{f g o}:B7t (.vptr f g o)=some (.vptr f g o):=rfl
@[simp] def E1H{b o}:B7t (.ptr b o)=some (.ptr b o):=rfl
@[simp] def E1m{cs}:B7t (.cptr cs)=some (.cptr cs):=rfl
@[simp] def E0X{f}{a c}:B7t (.func (.func f) a c)=some (.func (.func f) a c):=rfl
def C7T:AV->Option AV
 |.val (.bool b)=>some (.val (.bool !b))
 |_=>none
@[simp] def E0U{b}:C7T (.val (.bool b))=some (.val (.bool !b)):=rfl
def B0V(k:Option Nat)(x:AV):Option AV:=match k,x with
 |some k,.ptr b off=>some (.ptr b (off+k))
 |some k,.cptr cs=>some (.cptr (cs.drop k))
 |some k,.vptr f g off=>some (.vptr f g (off+k))
 |_,_=>none
@[simp] def D8z{k f g o}:B0V (some k) (.vptr f g o)=some (.vptr f g (o+k)):=rfl
@[simp] def D9F{k b o}:B0V (some k) (.ptr b o)=some (.ptr b (o+k)):=rfl
@[simp] def D7s{k}{cs}:B0V (some k) (.cptr cs)=some (.cptr (cs.drop k)):=rfl
def B0l(x:AV)(i:Nat):Option AV:=match x with
 |.tuple vs=>vs[i]?
 |_=>none
@[simp] def D3F{vs}{i}:B0l (.tuple vs) i=vs[i]?:=rfl
def A6N(e:Option (Option Nat))(x i:AV):Option AV:=match e,x,i with
 |some s,.list sz rows _,.val (.int _ i)=>if s=some sz/\0<=i/\i<rows.length then some (.cptr (rows.getD i.toNat []))else none
 |some s,.vref f g sz lo len,.val (.int _ i)=>if s=some sz/\0<=i/\i<len then some (.vptr f g ((lo+i.toNat)*sz))else none
 |_,_,_=>none
@[simp] def E0s{s sz f g lo len}{k}{i}:A6N (some (some s)) (.vref f g sz lo len) (.val (.int k i))=if s=sz/\0<=i/\i<len then some (.vptr f g ((lo+i.toNat)*sz))else none:=by simp[A6N]
@[simp] def E1o{s sz}{rows}{own}{k}{i}:A6N (some (some s)) (.list sz rows own) (.val (.int k i))=if s=sz/\0<=i/\i<rows.length then some (.cptr (rows.getD i.toNat []))else none:=by simp[A6N]
def A1m(P:Program)(t:TypeId)(M:Mem)(x:AV):Option AV:=(A2S M x).bind (A1x P t)
@[simp] def D9q{P}{t:TypeId}{M}{cs}:A1m P t M (.cptr cs)=A1x P t cs:=rfl
def A0b{P}{t:TypeId}{M}{b o}{bt:TypeId}{cs}(hb:M[b]?=some (.cells bt cs)):A1m P t M (.ptr b o)=if o<=cs.length then A1x P t (cs.drop o)else none:=by simp only[A1m,A2S,hb];split<;>rfl
def A9k(agg:Option Bool)(n:Option Nat)(cs:List AV):Option AV:=match agg,n with
 |some true,some n=>if n<=cs.length then some (.agg (cs.take n))else none
 |some false,some _=>cs.head?
 |_,_=>none
def A0k{P}{t:TypeId}{cs}:A1x P t cs=A9k (A2k P t) (A1t P t) cs:=by
 unfold A1x A9k;cases A2k P t with
 |none=>rfl
 |some b=>cases b<;>cases A1t P t<;>first|rfl|(cases cs<;>rfl)
@[simp] def C6J{n}{c}{cs}:A9k (some false) (some n) (c::cs)=some c:=rfl
@[simp] def D9u{n}{cs}:A9k (some true) (some n) cs=if n<=cs.length then some (.agg (cs.take n))else none:=rfl
def A0m(s:Option Nat)(M:Mem)(a v:AV):Option Mem:=match a with
 |.ptr b off=>match M[b]? with
  |some (.cells bt cs)=>if v.storable&&decide (off+v.cells.length<=cs.length)&&decide (s=some v.cells.length)then some (M.set b (.cells bt (A0e cs off v.cells)))else none
  |_=>none
 |.vptr f g off=>match M[f]? with
  |some (.vec vt sz cs g' hist)=>match hist.lookup g with
   |some n=>if v.storable&&decide (off+v.cells.length<=n*sz)&&decide (s=some v.cells.length)then some (M.set f (.vec vt sz (A0e cs off v.cells) g' (A1w sz g off hist)))else none
   |none=>none
  |_=>none
 |_=>none
def A0h{n}{M}{b off}{v}{bt:TypeId}{cs}(hb:M[b]?=some (.cells bt cs)):A0m (some n) M (.ptr b off) v=if v.storable=true/\off+v.cells.length<=cs.length/\n=v.cells.length then some (M.set b (.cells bt (A0e cs off v.cells)))else none:=by simp only[A0m,hb,Z0g,Z0l,Z0b,and_assoc]
def C0d{op}{xt yt:TypeId}{x y}:A4D C h ⟨d,.binOp op xt x y yt,t,p,af,g⟩ K ρ M=C7P C ⟨d,.binOp op xt x y yt,t,p,af,g⟩ ρ op xt (ρ x) (ρ y) (λv=>K v M):=by
 have e:A4D C h ⟨d,.binOp op xt x y yt,t,p,af,g⟩ K ρ M=(match A0Q C h ⟨d,.binOp op xt x y yt,t,p,af,g⟩ ρ M with|some (v,M')=>K v M'|none=>A9q C.P op xt (ρ x) (ρ y)=true/\∀b,K (.val (.bool b)) M):=rfl;rw[e];have e2:A0Q C h ⟨d,.binOp op xt x y yt,t,p,af,g⟩ ρ M=((A1z C.P op xt (ρ x) (ρ y)).or (A0Y C ⟨d,.binOp op xt x y yt,t,p,af,g⟩ ρ)).map λv=>(v,M):=by
  unfold A0Q;change(match A1z C.P op xt (ρ x) (ρ y)with|some v=>some (v,M)|none=>match A0Y C ⟨d,.binOp op xt x y yt,t,p,af,g⟩ ρ with|some v=>some (v,M)|none=>none)=_;cases A1z C.P op xt (ρ x) (ρ y)with
  |some v=>rfl
  |none=>cases A0Y C ⟨d,.binOp op xt x y yt,t,p,af,g⟩ ρ<;>rfl
 rw[e2];unfold C7P;cases(A1z C.P op xt (ρ x) (ρ y)).or (A0Y C ⟨d,.binOp op xt x y yt,t,p,af,g⟩ ρ)<;>rfl
def C2l{lt:TypeId}{x}:A4D C h ⟨d,.load lt x,t,p,af,g⟩ K ρ M=A0U (A1m C.P lt M (ρ x)) (λv=>K v M):=by
 rw[A3A rfl rfl,B1g rfl rfl];simp only[A0E,A1u,A1m];cases hx:ρ x with
 |cptr cs=>simp only[A2S,Z2U];cases A1x C.P lt cs<;>rfl
 |ptr b o=>simp only[];cases(A2S M (AV.ptr b o)).bind (A1x C.P lt)<;>rfl
 |vptr f g o=>simp only[];cases(A2S M (AV.vptr f g o)).bind (A1x C.P lt)<;>rfl
 |_=>rfl
def C9P{lt:TypeId}{x y}:A4D C h ⟨d,.store lt x y,t,p,af,g⟩ K ρ M=A0U (A0m (A1t C.P lt) M (ρ x) (ρ y)) (λM'=>K (.val undef) M'):=by
 rw[A3A rfl rfl,B1g rfl rfl];simp only[A0E,A1u,A0m];cases hx:ρ x with
 |ptr b o=>
  simp only[];cases hb:M[b]? with
  |none=>rfl
  |some ob=>
   cases ob with
   |cells bt cs=>simp only[];split<;>rfl
   |_=>rfl
 |vptr f g o=>
  simp only[];cases hb:M[f]? with
  |none=>rfl
  |some ob=>
   cases ob with
   |vec vt sz cs g' hist=>
    simp only[];cases hist.lookup g with
    |none=>rfl
    |some n=>simp only[];split<;>rfl
   |_=>rfl
 |_=>rfl
def A0l(P:Program)(e:TypeId)(M:Mem):Option (AV×Mem):=match A0F P e with
 |some z=>if z.all (·.oneCell')then some (.ptr M.length 0,M++[.cells e (z.map .val)])else none
 |none=>none
def C9t{e:TypeId}:A4D C h ⟨d,.alloc e,t,p,af,g⟩ K ρ M=A0U (A0l C.P e M) (λx=>K x.1 x.2):=by rw[A3A rfl rfl,B1g rfl rfl];rfl
def C2n(imm:Bool)(e:TypeId)(M:Mem)(x:AV):Option (AV×Mem):=if x.storable=true then(if imm=true then some (.cptr x.cells,M)else some (.ptr M.length 0,M++[.cells e x.cells]))else none
def D6f{e:TypeId}{x}:A4D C h ⟨d,.box e x,t,p,af,g⟩ K ρ M=A0U (C2n (A2y h.imm d) e M (ρ x)) (λx=>K x.1 x.2):=by rw[A3A rfl rfl,B1g rfl rfl];simp only[A0E,A1u,C2n];cases(ρ x).storable<;>cases A2y h.imm d<;>rfl
def A0w(P:Program)(t:TypeId)(parts:List (Nat×AV)):Option AV:=match A0F P t,P.underlying t with
 |some z,some (.struct _)=>if !A2K P t||!z.all (·.oneCell')then none else(A1e P t parts (z.map .val)).map .agg
 |_,_=>none
def A0n(P:Program)(t:TypeId)(n:Nat)(parts:List (Nat×AV)):Option AV:=match A1h P t with
 |some e=>match A1t P e,A0F P e with
  |some sz,some z=>if n*sz<=2^24/\z.length=sz/\z.all (·.oneCell')/\0<sz then
   (A0W sz parts (List.replicate n (z.map .val))).map λrows=>.list sz rows .full
   else none
  |_,_=>none
 |none=>none
def B7I{bt:TypeId}{n:Nat}{ps:List (Nat×Operand)}:A4D C h ⟨d,.buildSlice bt n ps.toArray,t,p,af,g⟩ K ρ M=if B7x C h bt d=true then A0U (A1J C.P bt n (ps.map λx=>(x.1,ρ x.2)) M) (λr=>K r.1 r.2)else A0U (A0n C.P bt n (ps.map λx=>(x.1,ρ x.2))) (λv=>K v M):=by
 rw[A3A rfl rfl];simp only[A0Q,A0E,A1u,A1p];cases B7x C h bt d with
 |true=>simp only[Z0M];change A0U (match A1J C.P bt n (ps.map λx=>(x.1,ρ x.2)) M with|some r=>some r|none=>none) _=_;cases A1J C.P bt n (ps.map λx=>(x.1,ρ x.2)) M<;>rfl
 |false=>simp only[Z0J,Z1o,A0n];show A0U (match A0n C.P bt n (ps.map λx=>(x.1,ρ x.2))with|some v=>some (v,M)|none=>none) _=A0U (A0n C.P bt n (ps.map λx=>(x.1,ρ x.2))) _;cases A0n C.P bt n (ps.map λx=>(x.1,ρ x.2))<;>rfl
def C4H{mt:TypeId}:A4D C h ⟨d,.makeMap mt none,t,p,af,g⟩ K ρ M=K (.mapr M.length) (M++[.map [] 0]):=by rw[A3A rfl rfl];rfl
def B6W{mt:TypeId}{m k}{ok}:A4D C h ⟨d,.lookup mt m k ok,t,p,af,g⟩ K ρ M=A0U (A1S C.P mt M (ρ m) (ρ k) ok) (λv=>K v M):=by rw[A3A rfl rfl];simp only[A0Q,A0E,A1u,A1p];cases A1S C.P mt M (ρ m) (ρ k) ok<;>rfl
def B8I{mt:TypeId}{m k x}:A4D C h ⟨d,.mapUpdate mt m k x,t,p,af,g⟩ K ρ M=A0U (A1N C.P mt M (ρ m) (ρ k) (ρ x)) (λM'=>K (.val undef) M'):=by rw[A3A rfl rfl];simp only[A0Q,A0E,A1u,A1p];cases A1N C.P mt M (ρ m) (ρ k) (ρ x)<;>rfl
def C5p{mt:TypeId}{m k x}:A4D C h ⟨d,.insert mt m k x,t,p,af,g⟩ K ρ M=A0U (A1N C.P mt M (ρ m) (ρ k) (ρ x)) (λM'=>K (.val undef) M'):=by rw[A3A rfl rfl];simp only[A0Q,A0E,A1u,A1p];cases A1N C.P mt M (ρ m) (ρ k) (ρ x)<;>rfl
def C0Q{st:TypeId}{l c}:A4D C h ⟨d,.makeSlice st l c,t,p,af,g⟩ K ρ M=A0U (A4V C.P st (ρ l) (ρ c) M) (λr=>K r.1 r.2):=by rw[A3A rfl rfl];change A0U (match A4V C.P st (ρ l) (ρ c) M with|some r=>some r|none=>none) _=_;cases A4V C.P st (ρ l) (ρ c) M<;>rfl
def D3Y{x}{xt:TypeId}:A4D C h ⟨d,.call {callee:=.builtin .len,args:=#[x],argTypes:=#[xt]},t,p,af,g⟩ K ρ M=A0U ((A2v C.P xt (ρ x)).or (A3v C.P xt M (ρ x))) (λn=>K (.val (.int .i64 n)) M):=by
 simp only[A4D,A0Q,A0E,A8K,Z0s,Z2c];cases hl:A2v C.P xt (ρ x)with
 |none=>cases hm:A3v C.P xt M (ρ x)<;>simp[hl,hm,A1u,A1p,A3u,B0p,goInt,A0Y,A3N,A4o]
 |some n=>simp[hl,goInt]
def D4g(C:Ctx)(f:AV)(args:List AV)(M:Mem)(K:AV->Mem->Prop):Prop:=match f with
 |.func (.func g) first captured=>A4A C g (first++args++captured) M K
 |_=>False
def B4u(C:Ctx)(own vec:Bool)(t u:TypeId)(s x:AV)(M:Mem)(K:AV->Mem->Prop):Prop:=∃e sz bytes,B8F C.P t u sz bytes e/\A0U (A7S own vec e sz bytes s x M) (λr=>K r.1 r.2)
def C7u{s x}{st xt:TypeId}:A4D C h ⟨d,.call {callee:=.builtin .append,args:=#[s,x],argTypes:=#[st,xt]},t,p,af,g⟩ K ρ M=B4u C (A2y h.own d) (A2y h.vec d) st xt (ρ s) (ρ x) M K:=by
 simp only[A4D,B4u];congr;funext e;congr;funext sz;congr;funext bytes;cases A7S (A2y h.own d) (A2y h.vec d) e sz bytes (ρ s) (ρ x) M with
 |none=>rfl
 |some r=>rfl
end
@[simp] def C9S{α:Type}{c:Prop}[Decidable c](v:α)(f:α->Prop):A0U (if c then some v else none) f=(c/\f v):=by
 by_cases h:c<;>simp[h,A0U]
@[simp] def A2g{α β:Type}(o:Option α)(g:α->β)(f:β->Prop):A0U (o.map g) f=A0U o (λx=>f (g x)):=by
 cases o<;>rfl
@[simp] def E1V{mx}{k}{a b}:A7U mx (.val (.int k a)) (.val (.int k b))=some (.val (.int k (if mx=true then(if b>a then b else a)else(if b<a then b else a)))):=by
 simp[A7U]
attribute [simp] Value.oneCell' AV.storable AV.one AV.cells A0e A0k A5o A9l D0Y A2y B1r A9i B0Q goInt C2n
@[simp] def E2i{P}{op}{t:TypeId}{k}{a b}:A1z P op t (.val (.int k a)) (.val (.int k b))=(B0t op k a b).map .val:=by cases h:B0t op k a b<;>simp[A1z,A2O,A4s,h]
@[simp] def E2p{P}{op}{t:TypeId}{a b}:A1z P op t (.val (.string a)) (.val (.string b))=(B5m op a b).map .val:=by cases h:B5m op a b<;>simp[A1z,A2O,A4s,h]
@[simp] def D6N{P}{t:TypeId}{a b}(h:P.underlying t=some .bool):A1z P .eql t (.val (.bool a)) (.val (.bool b))=some (.val (.bool (a==b))):=by simp[A1z,A2O,h]
@[simp] def D5t{P}{t:TypeId}{a b}(h:P.underlying t=some .bool):A1z P .neq t (.val (.bool a)) (.val (.bool b))=some (.val (.bool !(a==b))):=by simp[A1z,A2O,h]
@[simp] def D6R{P}{t e:TypeId}{b o}(h:P.underlying t=some (.pointer e)):A1z P .eql t (.ptr b o) (.val (.pointer none))=some (.val (.bool false)):=by simp[A1z,A2O,A3I,h,A3F,B5n]
attribute [simp] B0t
def D8f(a:ByteArray):∀(k i:Nat) (r:List UInt8),a.size-i=k->ByteArray.toList.loop a i r=r.reverse++a.data.toList.drop i:=by
 intro k;induction k with
 |zero=>
  intro i r h;rw[ByteArray.toList.loop];have:¬i<a.size:=by omega
  rw[Z0c this];rw[Z2d (by simp;show a.size<=i;omega)];simp
 |succ k ih=>
  intro i r h;rw[ByteArray.toList.loop];have hi:i<a.size:=by omega
  rw[Z0d hi,ih (i+1) _ (by omega)];have b:i<a.data.toList.length:=by simpa using hi
  rw[Z0i b];have:a.get! i=a.data.toList[i]:=by show a.data[i]! =_;rw[getElem!_pos a.data i hi];simp
  rw[this];simp
def B5v(a:ByteArray):a.toList=a.data.toList:=by unfold ByteArray.toList;rw[D8f a (a.size-0) 0 [] rfl];simp
def D6v{a b:ByteArray}(h:a.data.toList=b.data.toList):a=b:=by obtain⟨⟨a⟩⟩:=a;obtain⟨⟨b⟩⟩:=b;simp at h;rw[h]
def D5c(a b:ByteArray):(a.toList==b.toList)=decide (a=b):=by rw[B5v,B5v,Z2L];simp only[Z2Z,Z0l];exact⟨D6v,λh=>by rw[h]⟩
@[simp] def E3t(a b:ByteArray):B5m .eql a b=some (.bool (decide (a=b))):=by show some _=some _;rw[D5c]
@[simp] def E3V(a b:ByteArray):B5m .neq a b=some (.bool (!decide (a=b))):=by show some _=some _;rw[D5c]
@[simp] def E5c(a b:ByteArray):B5m .add a b=if((a.size+b.size:Nat):Int)>IntKind.i64.max then none else some (.string (a++b)):=rfl
def D4p{P}{op}{t:TypeId}{k}{a b}{f:AV->Prop}:B4W P op t (.val (.int k a)) (.val (.int k b)) f=A0U ((B0t op k a b).map .val) f:=by rw[A6f rfl];simp
def D3U{P}{op}{t:TypeId}{a b}{f:AV->Prop}:B4W P op t (.val (.string a)) (.val (.string b)) f=A0U ((B5m op a b).map .val) f:=by rw[A6f rfl];simp
def D1K{P}{op}{t:TypeId}{a b}{f:AV->Prop}:B4W P op t (.val (.bool a)) (.val (.bool b)) f=A0U (A1z P op t (.val (.bool a)) (.val (.bool b))) f:=by rw[A6f rfl]
def D5O{P}{op}{t:TypeId}{b o}{y}{f:AV->Prop}:B4W P op t (.ptr b o) y f=A0U (A1z P op t (.ptr b o) y) f:=by rw[A6f rfl]
def C5H{P}{op}{t:TypeId}{v}{y}{f:AV->Prop}:B4W P op t (.val v) y f=A0U (A1z P op t (.val v) y) f:=by rw[A6f rfl]
def D3C{P}{op}{t:TypeId}{sz}{r}{rows}{own}{y}{f:AV->Prop}:B4W P op t (.list sz (r::rows) own) y f=A0U (A1z P op t (.list sz (r::rows) own) y) f:=by rw[A6f rfl]
def C1k{P}{op}{t e:TypeId}{sz}{own}{f:AV->Prop}(a:op=.eql\/op=.neq)(ht:P.underlying t=some (.slice e)):B4W P op t (.list sz [] own) (.val (.slice none 0 0)) f=∀b,f (.val (.bool b)):=by
 have h1:A1z P op t (.list sz [] own) (.val (.slice none 0 0))=none:=by rcases a with rfl|rfl<;>simp[A1z,A2O,A4s,A3I,ht,A3F,B5n]
 have h2:A9q P op t (.list sz [] own) (.val (.slice none 0 0))=true:=by rcases a with rfl|rfl<;>simp[A9q,ht]
 unfold B4W;rw[h1,h2];simp
@[simp] def D4C{P}{t e:TypeId}{sz}{r}{rows}{own}(h:P.underlying t=some (.slice e)):A1z P .eql t (.list sz (r::rows) own) (.val (.slice none 0 0))=some (.val (.bool false)):=by simp[A1z,A2O,A3I,h,A3F,B5n]
@[simp] def D6V{P:Program}{t e:TypeId}(h:P.underlying t=some (.slice e)):A1z P .neq t (.val (.slice none 0 0)) (.val (.slice none 0 0))=some (.val (.bool false)):=by simp[A1z,A2O,A3I,h,A3F,B5n]
@[simp] def D5q{P:Program}{t e:TypeId}{sz:Nat}{r:List AV}{rows:List (List AV)}{own:Own}(h:P.underlying t=some (.slice e)):A1z P .neq t (.list sz (r::rows) own) (.val (.slice none 0 0))=some (.val (.bool true)):=by simp[A1z,A2O,A3I,h,A3F,B5n]
@[simp] def D7d{n}:A1K n none=some n:=rfl
@[simp] def D7Q{n}{k}{i}:A1K n (some (.val (.int k i)))=if 0<=i/\i<=n then some i.toNat else none:=rfl
attribute [congr] ite_congr
def D0l(v:AV)(want:Bool)(run skip:Prop):Prop:=match v with
 |.val (.bool b)=>if b=want then run else skip
 |.val (.tuple _)=>skip
 |_=>False
def C8r(d:Option Tmp)(want:Bool)(T:Env)(run skip:Prop):Prop:=match d with
 |some d=>D0l (T d) want run skip
 |none=>False
def D2K{ops}{d}{op}{t:TypeId}{p}{af}{run skip:Prop}{j}{want}{T}:A2B ops ⟨d,op,t,p,af,some (j,want)⟩ T run skip=C8r ((ops[j]?).bind (·.dst)) want T run skip:=by
 unfold A2B C8r D0l
 rfl
def D0r(v:AV)(x y:Prop):Prop:=match v with
 |.val (.bool b)=>if b=true then x else y
 |_=>False
end Go.Abs
