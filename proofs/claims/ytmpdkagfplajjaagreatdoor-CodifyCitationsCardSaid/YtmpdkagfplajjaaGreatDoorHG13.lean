/- The texts AbsX10, AbsX11, AbsX12, AbsL, AbsM, AbsN, AbsO. -/
import Derived.Test.YtmpdkagfplajjaaGreatDoorHG12
import Derived.Lib.UnsafeStr
set_option linter.all false
namespace Go.Abs
section
variable {C:Ctx} {G:A0o} {M:Mem} {w:World}
def A5u(M:Mem)(x:AV):Option AV:=match x with
 |.val (.slice none 0 0)=>some (.val (.pointer none))
 |.vref f g sz lo len=>match M[f]? with
  |some (.vec _ _ _ _ hist)=>match hist.lookup g with
   |some n=>if lo<n then some (.vptr f g (lo*sz))else none
   |none=>none
  |_=>none
 |_=>none
def B7t(hi:Inv C G M w){x}{xv}(hx:Rep G x xv)(ts:Array TypeId)(ty:TypeId){v}(h:A5u M x=some v):∃u,(Builtin.unsafeSliceData_ ts ty #[xv]).run C.P w=.ok u w/\Rep G v u:=by
 unfold A5u at h
 split at h
 .simp only[Z0b]at h;subst h;simp only[Rep]at hx;subst hx;exact⟨_,rfl,by simp[Rep]⟩
 .rename_i f g sz lo len;split at h;case h_2=>simp at h
  rename_i ety sz2 cs g' hist hM;split at h;case h_2=>simp at h
  rename_i n hn;split at h;case isFalse=>simp at h
  rename_i hlt;simp only[Z0b]at h;subst h;simp only[Rep]at hx;obtain⟨hf,hg,a,a',cap,hdr,k,i,rfl,l,j,e⟩:=hx;obtain⟨_,p2,_⟩:=hi.obj f _ hM;obtain⟨_,_,b,o,c,vs,q1,q2,_⟩:=p2 g n (A3v hn);have d:=hdr;rw[q1]at hdr;simp only[Z0h,Z0b]at hdr;obtain⟨rfl,rfl⟩:=hdr;refine⟨_,Lib.run_unsafeSliceData_row w ts ty a' len (c-lo) (by omega),?_⟩;simp only[Rep];exact⟨hf,hg,_,c,d,by rw[e (by omega)]⟩
 .simp at h
def B1X:List AV->Option (List UInt8)
 |[]=>some []
 |.val (.int .u8 n)::cs=>if 0<=n/\n<256 then(B1X cs).map (UInt8.ofNat n.toNat::·)else none
 |_=>none
def B9g:∀(cs:List AV) (l:List UInt8) (vs:List Value),B1X cs=some l->A0t G cs vs->vs=Lib.byteCells l
 |[],l,vs,h,hr=>by simp only[B1X,Z0b]at h;subst h;simp only[A0t]at hr;subst hr;rfl
 |c::cs,l,vs,h,hr=>by
  unfold B1X at h;split at h
  .rename_i h1;simp at h1
  .rename_i n cs' he;simp only[Z1a]at he;obtain⟨rfl,rfl⟩:=he;split at h;(case isFalse=>simp at h);rename_i hc;simp only[Z0m]at h;obtain⟨l',a,rfl⟩:=h;simp only[A0t]at hr;obtain⟨y,ys,rfl,hy,b⟩:=hr;simp only[Rep]at hy;subst hy;have:=B9g _ _ _ a b;subst this;(have hn:((UInt8.ofNat n.toNat).toNat:Int)=n:=by rw[UInt8.toNat_ofNat'];omega);simp only[Lib.byteCells,Z0z,hn]
  .simp at h
def A5m(P:Program)(pt:TypeId)(M:Mem)(p n:AV):Option (AV×Mem):=match n with
 |.val (.int .i64 n)=>if n=0 then(match p with
  |.val (.pointer none)=>some (.val (.string .empty),M)
  |.vptr _ _ _=>some (.val (.string .empty),M)
  |_=>none)else match p with
  |.vptr f g off=>match P.underlying pt,M[f]? with
   |some (.pointer e),some (.vec ty 1 cs _ hist)=>match hist.lookup g with
    |some m=>if 0<n/\off+n.toNat<=m/\ty=e/\P.cellsOf e=1/\n<=9223372036854775807 then match B1X ((cs.drop off).take n.toNat)with
     |some l=>some (.val (.string ⟨l.toArray⟩),M.set f .gone)
     |none=>none
     else none
    |none=>none
   |_,_=>none
  |_=>none
 |_=>none
def D3v{P}{e:TypeId}(hc:P.cellsOf e=1)(a off n:Nat)(hn:off+n<=a):liesAt P P.depth e a off e n=true:=by have hd:P.depth=(2*(P.types.size+Made.depth)+1)+1:=rfl;rw[hd];simp only[liesAt,Z1I];left;rw[hd];simp[rowAt,hc,hn,sameLayout,Nat.mod_one]
def B3f{P}(w:World)(pt it ty e:TypeId)(hp:P.underlying pt=some (.pointer e))(hc:P.cellsOf e=1)(g o cells:Nat)(m:w.shape? g=some (e,cells))(l:List UInt8)(h0:l≠[])(hn:o+l.length<=cells)(p:l.length<=9223372036854775807)
 (c:∀j x,l[j]?=some x->w.cell? ((⟨g,o,none⟩:Addr).add j)=some (.int .u8 x.toNat)):
 (Builtin.unsafeString_ #[pt,it] ty #[.pointer (some ⟨g,o,none⟩),.int .i64 l.length]).run P w=.ok (.string ⟨l.toArray⟩) (w.freeze ⟨g,o,none⟩ l.length):=by
 have hl:l.length≠0:=by simpa using h0
 have k:=Lib.run_loadBytes (P:=P) w l ⟨g,o,none⟩ .empty c
 have b:=D3v (P:=P) hc (cells/P.cellsOf e) o l.length (by rw[hc];simpa using hn)
 have i:¬(9223372036854775807:Int)<(l.length:Int):=by omega
 have d:Builtin.unsafeString_ #[pt,it] ty #[.pointer (some ⟨g,o,none⟩),.int .i64 l.length]=
  (do
   let n <-asInt (.int .i64 l.length)
   if n<0 then runtimePanic (.error "unsafe.String: len out of range")
   if n>IntKind.i64.max then unsupported (.unsafePointer "String: a length above the largest int")
   if n=0 then pure (.string .empty)
   else if<-variablesAt ⟨g,o,none⟩ (<-elemOf pt) n.toNat then do
    let s <-loadBytes ⟨g,o,none⟩ .empty n.toNat
    freeze ⟨g,o,none⟩ n.toNat
    pure (.string s)
   else unsupported (.unsafePointer "String: not so many bytes at ptr")):=rfl
 rw[d]
 have h:IntKind.i64.max=9223372036854775807:=rfl
 have f:¬(l.length:Int)<0:=by omega
 simp[asInt,asIntOf,h,i,f,hl,variablesAt,m,elemOf,Z0q hp,b,k]
def C5P(w:World)(a:Addr)(n b:Nat)(h:b≠a.block):(w.freeze a n).heap[b]?=w.heap[b]?:=by
 unfold World.freeze;split
 .rfl
 .simp only[Array.getElem?_modify];rw[Z0d (λe=>h e.symm)]
def B7x(hi:Inv C G M w){p n}{pv nv}(hp:Rep G p pv)(hn:Rep G n nv){pt it ty:TypeId}{v}{M'}(h:A5m C.P pt M p n=some (v,M')):∃u w',(Builtin.unsafeString_ #[pt,it] ty #[pv,nv]).run C.P w=.ok u w'/\Inv C G M' w'/\Rep G v u/\Ext w w':=by
 unfold A5m at h
 split at h
 case h_2=>simp at h
 rename_i n
 simp only[Rep]at hn
 subst hn
 split at h
 .rename_i h0;subst h0;split at h
  .simp only[Z0b,Z0h]at h;obtain⟨rfl,rfl⟩:=h;simp only[Rep]at hp;subst hp;exact⟨_,w,Lib.run_unsafeString_none w _ _ _ _,hi,by simp[Rep],.refl _⟩
  .simp only[Z0b,Z0h]at h;obtain⟨rfl,rfl⟩:=h;simp only[Rep]at hp;obtain⟨_,_,a,cap,_,rfl⟩:=hp;exact⟨_,w,Lib.run_unsafeString_none w _ _ _ _,hi,by simp[Rep],.refl _⟩
  .simp at h
 .rename_i h0;split at h;case h_2=>simp at h
  rename_i f g off;split at h;case h_2=>simp at h
  rename_i e ety cs g' hist hu hM;split at h;case h_2=>simp at h
  rename_i m hm;split at h;case isFalse=>simp at h
  rename_i hc;obtain⟨z,a0,rfl,d,a1⟩:=hc;split at h;case h_2=>simp at h
  rename_i l hl;simp only[Z0b,Z0h]at h;obtain⟨rfl,rfl⟩:=h;simp only[Rep]at hp;obtain⟨hf,hg,a,cap,hdr,rfl⟩:=hp;obtain⟨_,p2,_⟩:=hi.obj f _ hM;obtain⟨_,q0,b,o,y,vs,q1,q2,q3,q4,q5,q6,q7,q8,q9⟩:=p2 g m (A3v hm);rw[q1]at hdr;simp only[Z0h,Z0b]at hdr;obtain⟨rfl,rfl⟩:=hdr;simp only[Nat.mul_one]at q0 q5 q6 q7;have r:A0t G ((cs.drop off).take n.toNat) ((vs.toList.drop (o+off)).take n.toNat):=by have h1:=(q6.drop off).take n.toNat;rw[Z2T,Z2v,Z2T,Z2v,Z2c]at h1;rw[Z1A (by omega)]at h1;exact h1
  have s:=B9g _ _ _ hl r;have k:l.length=n.toNat:=by have:=congrArg List.length s;rw[Lib.byteCells_length,Z0D,Z1c,Z1z]at this;omega
  have t:(n:Int)=(l.length:Int):=by omega
  have q:=B3f (P:=C.P) w pt it ty ety hu d b (o+off) vs.size (by simp[World.shape?,q4]) l (by intro e;subst e;simp at k;omega) (by omega) (by omega) (λj x hx=>by
   (have h1:(Lib.byteCells l)[j]?=some (.int .u8 x.toNat):=by simp[Lib.byteCells,hx]);rw[<-s,Z0P]at h1
   split at h1
   .rw[Z1e]at h1;rw[Z1t,Z2Q _ _ _ _ _ _ q4];simpa using h1
   .simp at h1)
  rw[t];refine⟨_,_,q,?_,by simp[Rep],?_⟩
  .refine hi.step f b hM (.inl ⟨g,m,_,A3v hm,congrArg Prod.fst q1,rfl⟩) (.refl _) rfl (λ_=>rfl) (λ_ _=>⟨rfl,rfl⟩) (λb i v h=>.inl h) (λ_=>rfl) (λc _ hne=>C5P w _ _ _ hne) (λi v hv=>by rw[q8 i]at hv;simp at hv) (λo ho=>by rw[q9]at ho;simp at ho) trivial (λb hb=>hb.elim)
  .unfold World.freeze;split
   .exact .refl _
   .exact⟨rfl,rfl,rfl,by simp⟩
end
section
variable {C:Ctx} {G:A0o} {M:Mem} {w:World}
def C0G{P}{t u e:TypeId}{ty:TypeId}{sz}{x}{a}{n cap m}{w w'}(ht:P.underlying t=some (.slice e))(f:A1u P e=some sz)
 (hu:A3V P u)(hx:∀w,(Builtin.lenOf x).run P w=.ok m w)
 {news}(d:(Builtin.firstCells sz m x).run P w=.ok news.toArray w)(c:n+m<=cap)(b:(storeCells (a.add (n*sz)) news).run P w=.ok () w'):
 (Builtin.append_ #[t,u] ty #[.slice (some a) n cap,x]).run P w=.ok (.slice (some a) (n+m) cap) w':=by
 obtain⟨e2,hu⟩|hu:=hu
 all_goals simp[Builtin.append_,Z0q ht,Z0q hu,A2k f,hx,d,c,b]
def A5H(e:TypeId)(sz:Nat)(s x:AV)(M:Mem):Option (AV×Mem):=
 match A0D M sz x,s with
 |some (news,m),.vref f h s' lo len=>match M[f]? with
  |some (.vec e2 s2 cs g hist)=>match hist.lookup h with
   |some n=>if e2=e/\s'=sz/\s2=sz/\0<m/\lo+len+m<=n then
    some (.vref f h sz lo (len+m),M.set f (.vec e sz (A0d cs ((lo+len)*sz) news) g (A0Y sz h ((lo+len)*sz) hist)))
    else none
   |none=>none
  |_=>none
 |_,_=>none
def C4B(hi:Inv C G M w){s x}{sv xv}(hs:Rep G s sv)(hx:Rep G x xv){t u e ty:TypeId}{sz}(ht:C.P.underlying t=some (.slice e))(hu:A3V C.P u)
 (p:A1u C.P e=some sz){v}{M'}(h:A5H e sz s x M=some (v,M')):
 ∃r w',(Builtin.append_ #[t,u] ty #[sv,xv]).run C.P w=.ok r w'/\Inv C G M' w'/\Rep G v r/\Ext w w':=by
 unfold A5H at h
 split at h
 case h_2=>simp at h
 rename_i news m f h' s' lo len hsrc
 obtain⟨a3,l,j,i,y,a5⟩:=A7O hi hx hsrc
 split at h
 case h_2=>simp at h
 rename_i e2 s2 cs g hist hM
 split at h
 case h_2=>simp at h
 rename_i n hn
 split at h
 case isFalse=>simp at h
 rename_i hc
 obtain⟨rfl,rfl,rfl,a8,a7⟩:=hc
 simp only[Z0b,Z0h]at h
 obtain⟨rfl,rfl⟩:=h
 simp only[Rep]at hs
 obtain⟨hf,hg,a,a',cap,hdr,a9,a6,rfl,aa,z,a0⟩:=hs
 obtain⟨_,p2,_⟩:=hi.obj f _ hM
 obtain⟨_,q0,b,o,c,vs,q1,q2,_⟩:=p2 h' n (A3v hn)
 have d:=hdr
 rw[q1]at hdr
 simp only[Z0h,Z0b]at hdr
 obtain⟨rfl,rfl⟩:=hdr
 have ha:=a0 (by omega)
 subst ha
 have a4:news.length=m*s2:=by rw[<-l.length];exact j
 have hb:(lo+len)*s2+news.length<=n*s2:=by rw[a4,<-Z0M];exact Z1f _ (by omega)
 obtain⟨a2,w',k,a1,h2,h3⟩:=B1p hi (f:=f) (g:=h') (off:=(lo+len)*s2) (x:=.pointer (some ⟨b,o+(lo+len)*s2,none⟩)) (by simp only[Rep];exact⟨hf,hg,_,c,d,rfl⟩) l i hM hn hb
 simp only[Z3O,Z0b]at k
 subst k
 have q:(storeCells ((⟨b,o+lo*s2,none⟩:Addr).add (len*s2)) a3).run C.P w=.ok () w':=by rw[Z1t,Z2s,<-Z0M];exact a1
 refine⟨_,w',C0G ht p hu y (a5 w rfl) (by omega) q,h2,?_,h3⟩
 simp only[Rep]
 exact⟨hf,hg,_,_,c,d,rfl,rfl,rfl,by omega,z,λ_=>rfl⟩
end
section
variable {C:Ctx} {G:A0o} {M:Mem} {w:World}
def B1V(P:Program)(b:Builtin)(ts:List TypeId)(args:List AV)(M:Mem):Option (AV×Mem):=match b,ts,args with
 |.clear,[t],[x]=>B0x P t M x
 |.unsafeSliceData,_,[x]=>(A5u M x).map λv=>(v,M)
 |.unsafeString,[pt,it],[p,n]=>A5m P pt M p n
 |_,_,_=>none
def B8i(hi:Inv C G M w){b}{ts}{args}{xs}(hr:A0t G args xs.toList){v}{M'}(h:B1V C.P b ts.toList args M=some (v,M'))(ty:TypeId)(a:Array Bool):∃u w',(builtin b ts ty a xs).run C.P w=.ok (.value u) w'/\Inv C G M' w'/\Rep G v u/\Ext w w':=by
 obtain⟨xs⟩:=xs
 obtain⟨ts⟩:=ts
 simp only at hr h
 unfold B1V at h
 split at h
 .simp only[A0t]at hr;obtain⟨y,_,rfl,hy,rfl⟩:=hr;obtain⟨r,w',h1,h2,h3,h4⟩:=C6x (ty:=ty) hi hy h;exact⟨r,w',by simp only[builtin,Z0E,h1,Z0u,Z0K],h2,h3,h4⟩
 .simp only[A0t]at hr;obtain⟨y,_,rfl,hy,rfl⟩:=hr;simp only[Z0m,Z0h]at h;obtain⟨v',hv,rfl,rfl⟩:=h;obtain⟨u,h1,h2⟩:=B7t hi hy ts.toArray ty hv;exact⟨u,w,by simp only[builtin,Z0E,h1,Z0u,Z0K],hi,h2,.refl _⟩
 .rename_i pt it p n;simp only[A0t]at hr;obtain⟨y,_,rfl,hy,y2,_,rfl,c,rfl⟩:=hr;obtain⟨r,w',h1,h2,h3,h4⟩:=B7x (ty:=ty) (it:=it) hi hy c h;exact⟨r,w',by simp only[builtin,Z0E,h1,Z0u,Z0K],h2,h3,h4⟩
 .simp at h
def A6T(C:Ctx)(o:Oper)(ρ:Operand->AV)(M:Mem):Option (AV×Mem):=match o.op with
 |.range t x=>B0y C.P t (ρ x) M
 |.next x true=>A9o (ρ x) M
 |.slice t x lo hi mx=>(A4l C.P t M (ρ x) (lo.map ρ) (hi.map ρ) (mx.map ρ)).map λv=>(v,M)
 |.convert s d x=>match B2P C.P s d (ρ x)with
  |some v=>some (v,M)
  |none=>(C5V C.P s d M (ρ x)).map λv=>(v,M)
 |.call {callee:=.builtin b,args,argTypes}=>B1V C.P b argTypes.toList (args.toList.map ρ) M
 |_=>none
def D7C(hi:Inv C G M w){o}{ρ:Operand->AV}{σ:Operand->Value}(hρ:∀x∈o.op.operands.toList,Rep G (ρ x) (σ x)){v}{M'}(h:A6T C o ρ M=some (v,M')):A3L C G w (execOp σ o) v M':=by
 obtain⟨dst,op,type,pos,after,guard⟩:=o;simp only at hρ;unfold A6T at h;simp only at h;split at h
 .rename_i t x;obtain⟨u,w',G',h1,h2,h3,h4,h5⟩:=C7Q hi (hρ x (by simp[Op.operands])) h;exact⟨_,w',G',A3W h1,.inl ⟨u,rfl,h4⟩,h2,h3,h5⟩
 .rename_i x;obtain⟨u,w',h1,h2,h3,h4⟩:=C8M hi (hρ x (by simp[Op.operands])) type h;exact⟨_,w',G,A3W h1,.inl ⟨u,rfl,h3⟩,.refl _,h2,h4⟩
 .rename_i t x lo hi' mx;simp only[Z0m,Z0h]at h;obtain⟨v',hv,rfl,rfl⟩:=h;have e:∀(y:Option Operand),(∀q,y=some q->Rep G (ρ q) (σ q))->∀a,y.map ρ=some a->∃z,y.map σ=some z/\Rep G a z:=λy hy a ha=>by
   cases y with
   |none=>simp at ha
   |some q=>simp at ha;subst ha;exact⟨_,rfl,hy q rfl⟩
  obtain⟨u,h1,h2⟩:=B7u (w:=w) hi (hρ x (by simp[Op.operands])) (e lo (λq hq=>hρ q (by simp[Op.operands,hq]))) (by cases lo<;>simp) (e hi' (λq hq=>hρ q (by simp[Op.operands,hq]))) (by cases hi'<;>simp) (e mx (λq hq=>hρ q (by simp[Op.operands,hq]))) (by cases mx<;>simp) hv;exact A3L.same hi (x:=u) (A3W h1) h2
 .rename_i s d x;split at h
  .rename_i v' hv;simp only[Z0b,Z0h]at h;obtain⟨rfl,rfl⟩:=h;obtain⟨u,w',G',h1,h2,h3,h4,h5⟩:=C6u hi (hρ x (by simp[Op.operands])) hv;exact⟨_,w',G',A3W h1,.inl ⟨u,rfl,h4⟩,h2,h3,h5⟩
  .simp only[Z0m,Z0h]at h;obtain⟨v',hv,rfl,rfl⟩:=h;obtain⟨u,h1,h2⟩:=C7q (w:=w) hi (hρ x (by simp[Op.operands])) hv;exact A3L.same hi (x:=u) (A3W h1) h2
 .rename_i b args ts;have c:A0t G (args.toList.map ρ) (args.map σ).toList:=by have:=A8r (G:=G) args.toList (λx hx=>hρ x (by simp[Op.operands,Call.operands];simpa using hx));simpa using this
  obtain⟨u,w',h1,h2,h3,h4⟩:=B8i hi c h type (args.map λx=>x matches .const _);refine⟨.value u,w',G,?_,.inl ⟨u,rfl,h3⟩,.refl _,h2,h4⟩;simp only[execOp,resolve,Z0E,Z0K,Z0u,invoke];exact h1
 .simp at h
end
def A2b(C:Ctx)(h:A2u)(o:Oper)(ρ:Operand->AV)(M:Mem):Option (AV×Mem):=
 match o.op with
 |.load t x=>match ρ x with
  |.ptr b off=>((A3k M (.ptr b off)).bind (A1n C.P t)).map λv=>(v,M)
  |.vptr f g off=>((A3k M (.vptr f g off)).bind (A1n C.P t)).map λv=>(v,M)
  |_=>none
 |.store t a x=>match ρ a with
  |.ptr b off=>match M[b]? with
   |some (.cells bt cs)=>if(ρ x).storable&&decide (off+(ρ x).cells.length<=cs.length)&&decide (A1u C.P t=some (ρ x).cells.length)then some (.val undef,M.set b (.cells bt (A0d cs off (ρ x).cells)))else none
   |_=>none
  |.vptr f g off=>match M[f]? with
   |some (.vec vt sz cs g' hist)=>match hist.lookup g with
    |some n=>if(ρ x).storable&&decide (off+(ρ x).cells.length<=n*sz)&&decide (A1u C.P t=some (ρ x).cells.length)then some (.val undef,M.set f (.vec vt sz (A0d cs off (ρ x).cells) g' (A0Y sz g off hist)))else none
    |none=>none
   |_=>none
  |_=>none
 |.alloc e=>match A0H C.P e with
  |some z=>if z.all (·.oneCell')then some (.ptr M.length 0,M++[.cells e (z.map .val)])else none
  |none=>none
 |.box e x=>if(ρ x).storable then some (.ptr M.length 0,M++[.cells e (ρ x).cells])else none
 |_=>none
def A0U(C:Ctx)(h:A2u)(o:Oper)(ρ:Operand->AV)(M:Mem):Option (AV×Mem):=
 match A0I C h o ρ with
 |some v=>some (v,M)
 |none=>match A2b C h o ρ M with
  |some r=>some r
  |none=>match A2c C h o ρ M with
   |some r=>some r
   |none=>match A1d C o ρ with
    |some v=>some (v,M)
    |none=>A6T C o ρ M
section
variable {C:Ctx} {G:A0o} {M:Mem} {w:World}
def D9x{P}{s}{w w'}(h:s.run P w=.ok () w'):(do s;pure .skip:Sem Next).run P w=.ok .skip w':=by simp only[Z0E,h,Z0u,Z0K]
def D2H(hi:Inv C G M w){o}{ρ:Operand->AV}{σ:Operand->Value}(hρ:∀x∈o.op.operands.toList,Rep G (ρ x) (σ x)){hn}{v}{M'}(h:A2b C hn o ρ M=some (v,M')):A3L C G w (execOp σ o) v M':=by
 obtain⟨dst,op,type,pos,after,guard⟩:=o;simp only at hρ;unfold A2b at h;simp only at h;split at h
 .rename_i t x;have hx:=hρ x (by simp[Op.operands]);split at h;case h_3=>simp at h
  all_goals
   rename_i he
   rw[he]at hx
   simp only[Z0m,Z2l,Z0h]at h
   obtain⟨r,⟨cs,c,hl⟩,rfl,rfl⟩:=h
   obtain⟨u,hu,i⟩:=B3U hi hx c hl
   exact A3L.same hi (x:=u) (A3W hu) i
 .rename_i t a x;have ha:=hρ a (by simp[Op.operands]);have hx:=hρ x (by simp[Op.operands]);split at h;case h_3=>simp at h
  .rename_i b off he;rw[he]at ha;split at h;(case h_2=>simp at h);rename_i bt cs c;split at h;(case isFalse=>simp at h);rename_i hc;simp only[Z0f,Z0k]at hc;simp only[Z0b,Z0h]at h;obtain⟨rfl,rfl⟩:=h;obtain⟨w',h1,h2,h3⟩:=C5X hi ha hx c hc.1.1 hc.2 hc.1.2;exact⟨_,w',G,D9x h1,.inr ⟨rfl,rfl⟩,.refl _,h2,h3⟩
  .rename_i f g off he;rw[he]at ha;split at h;(case h_2=>simp at h);rename_i vt sz cs g' hist hM;split at h;(case h_2=>simp at h);rename_i n hn;split at h;(case isFalse=>simp at h);rename_i hc;simp only[Z0f,Z0k]at hc;simp only[Z0b,Z0h]at h;obtain⟨rfl,rfl⟩:=h;obtain⟨w',h1,h2,h3⟩:=C4c hi ha hx hM hn hc.1.1 hc.2 hc.1.2;exact⟨_,w',G,D9x h1,.inr ⟨rfl,rfl⟩,.refl _,h2,h3⟩
 .rename_i e;split at h;case h_2=>simp at h
  rename_i z hz;split at h;case isFalse=>simp at h
  rename_i hall;simp only[Z0b,Z0h]at h;obtain⟨rfl,rfl⟩:=h;obtain⟨zv,hv,d,j⟩:=B0m (P:=C.P) hz G w;obtain⟨G',h1,h2,h3,h4⟩:=hi.newBox e (vs:=zv.cells) (by rw[d];exact j) (λy hy=>by rw[d]at hy;exact Z0p.1 hall y hy);refine⟨_,_,G',A3W (v:=.pointer (some ⟨w.heap.size,0,none⟩)) (w':=w.alloc (.cells zv.cells e)) ?_,.inl ⟨_,rfl,by simp only[Rep];exact⟨h4,by rw[h3]⟩⟩,h2,h1,Ext.alloc _ _⟩;simp only[Instr.alloc,Z0E,hv,Z0u,newVar,newRow,Z3J,Z0K];rfl
 .rename_i e x;have hx:=hρ x (by simp[Op.operands]);split at h;case isFalse=>simp at h
  rename_i hs;simp only[Z0b,Z0h]at h;obtain⟨rfl,rfl⟩:=h;obtain⟨c1,c2⟩:=hx.cells hs;obtain⟨G',h1,h2,h3,h4⟩:=hi.newBox e (vs:=(σ x).cells) c1 c2;refine⟨_,_,G',A3W (v:=.pointer (some ⟨w.heap.size,0,none⟩)) (w':=w.alloc (.cells (σ x).cells e)) ?_,.inl ⟨_,rfl,by simp only[Rep];exact⟨h4,by rw[h3]⟩⟩,h2,h1,Ext.alloc _ _⟩;simp only[Instr.box,newVar,newRow,Z0E,Z3J,Z0u,Z0K];rfl
 .simp at h
def C3C(hi:Inv C G M w){o}{ρ:Operand->AV}{σ:Operand->Value}(hρ:∀x∈o.op.operands.toList,Rep G (ρ x) (σ x)){hn}{v}{M'}(h:A0U C hn o ρ M=some (v,M')):A3L C G w (execOp σ o) v M':=by
 unfold A0U at h;split at h
 .rename_i u hu;simp only[Z0b,Z0h]at h;obtain⟨rfl,rfl⟩:=h;exact C8f hi hρ hu
 .split at h
  .rename_i r hr;simp only[Z0b]at h;subst h;exact D2H hi hρ hr
  .split at h
   .rename_i r hr;simp only[Z0b]at h;subst h;exact C9w hi hρ hr
   .split at h
    .rename_i u hu;simp only[Z0b,Z0h]at h;obtain⟨rfl,rfl⟩:=h;exact B7k hi hρ hu
    .exact D7C hi hρ h
end
def B7J(vec:Bool):AV->Bool
 |.vref _ _ _ _ _=>true
 |.val (.slice none 0 0)=>vec
 |.list _ [] .full=>vec
 |_=>false
def B7H(sz:Nat):AV->Bool
 |.list s _ _=>s==sz
 |_=>true
def B2w{sz}{v}:B7H sz v=true<->B0X sz v:=by cases v<;>simp[B7H,B0X]
def A7e(own vec:Bool)(e:TypeId)(sz bytes:Nat)(s x:AV)(M:Mem):Option (AV×Mem):=
 if B7J vec s then match A0D M sz s,A0D M sz x with
  |some (_,k),some (_,m)=>if(k+m)*bytes<=140737488355328 then(match A5H e sz s x M with|some r=>some r|none=>A6w e sz s x M)else none
  |_,_=>none
 else if B7H sz s&&B7H sz x&&decide ((A9b s+A9b x)*bytes<=140737488355328)then A7z own sz s x M else none
def C3Q{C}{G}{M}{w}(hi:Inv C G M w){s x}{sv xv}(hs:Rep G s sv)(hx:Rep G x xv){t u e ty:TypeId}{sz bytes}(ht:A1f C.P t=some e)(hu:A3V C.P u)
 (he:A3s C.P e sz bytes){own vec}{v}{M'}(h:A7e own vec e sz bytes s x M=some (v,M')):
 ∃r w' G',(Builtin.append_ #[t,u] ty #[sv,xv]).run C.P w=.ok r w'/\G.le G'/\Inv C G' M' w'/\Rep G' v r/\Ext w w':=by
 unfold A7e at h
 split at h
 .split at h
  .rename_i cs k news m h1 h2;split at h;(case isFalse=>simp at h);rename_i hb;split at h
   .rename_i r hr;simp only[Z0b]at h;subst h;obtain⟨i,z,a,hz,b,_⟩:=he;obtain⟨r,w',k1,k2,k3,k4⟩:=C4B (ty:=ty) hi hs hx (A2C ht) hu (by simp[A1u,a,b]) hr;exact⟨r,w',G,k1,.refl _,k2,k3,k4⟩
   refine C9x hi hs hx (A2C ht) hu he (λc k' e1 news' m' e2=>?_) h;rw[h1]at e1;rw[h2]at e2;simp only[Z0b,Z0h]at e1 e2;rw[<-e1.2,<-e2.2];exact hb
  .simp at h
 .split at h
  .rename_i hc;simp only[Z0f,Z0k,B2w]at hc;exact C3W hi hs hx hc.1.1 hc.1.2 h ty ht hu he hc.2
  .simp at h
def B8v(P:Program)(t u:TypeId)(sz bytes:Nat)(e:TypeId):Prop:=A1f P t=some e/\A3V P u/\A3s P e sz bytes
def D5y(P:Program)(g:FuncId):Prop:=∀(args:Array Value) (w:World),(callFunc g args).run P w=.ok (.enter g args) w
def C4J(C:Ctx)(g:FuncId)(args:List AV)(M:Mem)(Q:AV->Mem->Prop):Prop:=∀G w (vs:List Value),Inv C G M w->A0t G args vs->∃x w' G' r M',(callFunc g vs.toArray).run C.P w=.ok (.value x) w'/\Q r M'/\G.le G'/\Inv C G' M' w'/\Rep G' r x/\Ext w w'
def C4J.mono{C}{g}{args}{M}{Q Q':AV->Mem->Prop}(h:C4J C g args M Q)(hq:∀r m,Q r m->Q' r m):C4J C g args M Q':=by intro G w vs hi hr;obtain⟨x,w',G',r,M',h1,h2,h3⟩:=h G w vs hi hr;exact⟨x,w',G',r,M',h1,hq _ _ h2,h3⟩
def A4r(C:Ctx)(g:FuncId)(args:List AV)(M:Mem)(Q:AV->Mem->Prop):Prop:=(D5y C.P g/\A0e C g args M Q)\/C4J C g args M Q
def A4r.mono{C}{g}{args}{M}{Q Q':AV->Mem->Prop}(h:A4r C g args M Q)(hq:∀r m,Q r m->Q' r m):A4r C g args M Q':=h.imp (λh=>⟨h.1,h.2.mono hq⟩) (λh=>h.mono hq)
def A9k(P:Program)(op:BinOp)(t:TypeId)(x y:AV):Bool:=
 match x,y with
 |.list _ [] _,.val (.slice none 0 0)=>(match op with|.eql|.neq=>true|_=>false)&&(match P.underlying t with|some (.slice _)=>true|_=>false)
 |_,_=>false
def B0o(C:Ctx)(o:Oper)(ρ:Operand->AV):Bool:=match o.op with
 |.binOp op t x y _=>A9k C.P op t (ρ x) (ρ y)
 |_=>false
def A4z(C:Ctx)(h:A2u)(o:Oper)(K:AV->Mem->Prop)(ρ:Operand->AV)(M:Mem):Prop:=
 match o.op with
 |.call {callee:=.value f,args,..}=>match ρ f with
  |.func (.func g) first captured=>A4r C g (first++args.toList.map ρ++captured) M K
  |_=>False
 |.call {callee:=.builtin .append,args,argTypes}=>match args.toList,argTypes.toList with
  |[s,x],[t,u]=>∃e sz bytes,B8v C.P t u sz bytes e/\
   match A7e (A2t h.own o.dst) (A2t h.vec o.dst) e sz bytes (ρ s) (ρ x) M with
   |some (v,M')=>K v M'
   |none=>False
  |_,_=>False
 |_=>match A0U C h o ρ M with
  |some (v,M')=>K v M'
  |none=>B0o C o ρ=true/\∀b,K (.val (.bool b)) M
def B0z(C:Ctx)(G:A0o)(w:World)(o:Oper)(a:Act)(K:AV->Mem->Prop):Prop:=∀(next:Act->World->Prop) (Q:Exit->Act->World->Prop),(∀v M' G' w' x,K v M'->G.le G'->Inv C G' M' w'->Rep G' v x->Ext w w'->next (a.put o.dst x) w')->o.wp C.P a w next Q
def A5n{C}{G}{M}{w}(hi:Inv C G M w){h}{o}{ρ:Operand->AV}{a}(hρ:∀x∈o.op.operands.toList,Rep G (ρ x) (a.eval x)){K:AV->Mem->Prop}(hv:A4z C h o K ρ M):B0z C G w o a K:=by
 intro next Q hK
 have l:∀v M',A0U C h o ρ M=some (v,M')->K v M'->o.wp C.P a w next Q:=by
  intro v M' he hk;obtain⟨nx,w',G',h1,h2,h3,h4,h5⟩:=C3C hi hρ he;unfold Oper.wp;rw[h1];rcases h2 with⟨x,rfl,hr⟩|⟨rfl,rfl⟩
  .exact hK v M' G' w' x hk h3 h4 hr h5
  .exact hK _ M' G' w' undef hk h3 h4 (by simp[Rep]) h5
 obtain⟨dst,op,type,pos,after,guard⟩:=o;unfold A4z at hv;simp only at hv;split at hv
 .rename_i f args ts;split at hv;case h_2=>exact hv.elim
  rename_i g first captured hf
  have m:=hρ f (by simp[Op.operands,Call.operands]);rw[hf]at m;simp only[Rep]at m;obtain⟨fs,cs,p,a3,a0⟩:=m;have j:A0t G (args.toList.map ρ) (args.toList.map a.eval):=A8r args.toList (λx hx=>hρ x (by simp[Op.operands,Call.operands];simp at hx;simp[hx]));have i:=(a3.append j).append a0;have e:(fs.toList++args.toList.map a.eval++cs.toList).toArray=fs++args.map a.eval++cs:=by apply Z1E;simp
  rcases hv with⟨a2,hc⟩|hc;case inr=>obtain⟨x,w',G',r,M',q1,q2,q3,q4,q5,q6⟩:=hc G w _ hi i;rw[e]at q1;unfold Oper.wp;(have c:(execOp a.eval {dst:=dst,op:=.call {callee:=.value f,args:=args,argTypes:=ts},type:=type,pos:=pos,after:=after,guard:=guard}).run C.P w=.ok (.value x) w':=by simp only[execOp,resolve,p,Deferred.ofValue,Z0E,Z0K,Z0u,invoke];exact q1);rw[c];exact hK r M' G' w' x q2 q3 q4 q5 q6
  have k:=hc G w _ hi i;unfold Oper.wp;have c:(execOp a.eval {dst:=dst,op:=.call {callee:=.value f,args:=args,argTypes:=ts},type:=type,pos:=pos,after:=after,guard:=guard}).run C.P w=.ok (.enter g (fs++args.map a.eval++cs)) w:=by simp only[execOp,resolve,p,Deferred.ofValue,Z0E,Z0K,Z0u,invoke];exact a2 _ w
  rw[c];rw[e]at k;simp only[Oper.upon_enter];refine k.mono ?_;rintro e' w' ⟨r,M',G',v,rfl,k1,k2,k3,k4,k5⟩;exact hK r M' G' w' v k1 k2 k3 k4 k5
 .rename_i args ts;split at hv;case h_2=>exact hv.elim
  rename_i s x t u ha ht;obtain⟨e,sz,bytes,⟨he,hu,a1⟩,hm⟩:=hv;split at hm;case h_2=>exact hm.elim
  rename_i v M' hap;have j:args=#[s,x]:=by apply Z1E;simpa using ha
  have a4:ts=#[t,u]:=by apply Z1E;simpa using ht
  subst j;subst a4;have h1:=hρ s (by simp[Op.operands,Call.operands]);have h2:=hρ x (by simp[Op.operands,Call.operands]);obtain⟨rv,w',G',k1,k2,k3,k4,k5⟩:=C3Q (ty:=type) hi h1 h2 he hu a1 hap;unfold Oper.wp;have c:(execOp a.eval {dst:=dst,op:=.call {callee:=.builtin .append,args:=#[s,x],argTypes:=#[t,u]},type:=type,pos:=pos,after:=after,guard:=guard}).run C.P w=.ok (.value rv) w':=by simp only[execOp,resolve,Z0E,Z0K,Z0u,invoke,builtin,List.map_toArray,Z0z,Z2b,k1]
  rw[c];exact hK v M' G' w' rv hm k2 k3 k4 k5
 .split at hv
  .rename_i v M' he;exact l v M' he hv
  .obtain⟨hn,i⟩:=hv;unfold B0o at hn;split at hn;(case h_2=>simp at hn);rename_i bop t x y yt hop;simp only at hop;subst hop;unfold A9k at hn;split at hn;(case h_2=>simp at hn);rename_i sz own hx hy;simp only[Z0f]at hn;obtain⟨n,z⟩:=hn;have h1:=hρ x (by simp[Op.operands]);have h2:=hρ y (by simp[Op.operands]);rw[hx]at h1;rw[hy]at h2;simp only[Rep]at h1 h2;obtain⟨base,cap,q,_,_,_,_⟩:=h1;split at z;(case h_2=>simp at z);rename_i e hu;have hr:=A3S (P:=C.P) (t:=t) (xv:=a.eval x) (yv:=a.eval y) (ox:=x) (oy:=y) (b:=base.isNone) (w:=w) (λd=>by rw[q,h2];exact A5M hu d _ _ _ w) (.inr (.inl ⟨_,_,_,q⟩)) (.inr (.inl ⟨_,_,_,h2⟩));unfold Oper.wp;split at n
   .have:=A3W hr.1;simp only[execOp];rw[this];exact hK _ M G w _ (i base.isNone) (.refl _) hi (by simp[Rep]) (.refl _)
   .have:=A3W hr.2;simp only[execOp];rw[this];exact hK _ M G w _ (i (!base.isNone)) (.refl _) hi (by simp[Rep]) (.refl _)
   .simp at n
def Oper.inside(N:Nat)(o:Oper):Bool:=o.op.operands.toList.all (Operand.inside N)
def A2F(ops:Array Oper)(o:Oper)(T:Env)(run skip:Prop):Prop:=
 match o.guard with
 |none=>run
 |some (j,want)=>match(ops[j]?).bind (·.dst)with
  |some d=>match T d with
   |.val (.bool b)=>if b=want then run else skip
   |.val (.tuple _)=>skip
   |_=>False
  |none=>False
def A8o(C:Ctx)(h:A2u)(ops:Array Oper):List Oper->(Env->Mem->Prop)->Env->Mem->Prop
 |[],K,T,M=>K T M
 |o::rest,K,T,M=>A2F ops o T (A4z C h o (λv M'=>A8o C h ops rest K (T.put o.dst v) M') (T.ev C) M) (A8o C h ops rest K (T.put o.dst (.val undef)) M)
def B2E(N:Nat)(ops:Array Oper)(o:Oper):Bool:=match o.guard with
 |none=>true
 |some (j,_)=>match(ops[j]?).bind (·.dst)with
  |some d=>decide (d<N)
  |none=>true
def A1P(N:Nat)(ops:Array Oper)(l:List Oper):Bool:=l.all λo=>Oper.inside N o&&B2E N ops o
def A7Q{C}{G}{M}{w}{N}{T}{a}(hi:Inv C G M w)(he:A1R G N T a){o}(h:Oper.inside N o=true):∀x∈o.op.operands.toList,Rep G (T.ev C x) (a.eval x):=λx hx=>C8t hi he x (Z0p.1 h x hx)
def A9c{C:Ctx}{G:A0o}{M:Mem}{w:World}{N:Nat}{T:Env}{a:Act}(he:A1R G N T a){ops:Array Oper}{o:Oper}(hg:B2E N ops o=true){run skip:Prop}(h:A2F ops o T run skip):(Region.wanted o (yielded ops a.tmps)=true/\run)\/(Region.wanted o (yielded ops a.tmps)=false/\skip):=by
 unfold A2F at h
 unfold B2E at hg
 unfold Region.wanted
 split at h
 .rename_i hn;rw[hn];exact .inl ⟨rfl,h⟩
 .rename_i j want hs;rw[hs]at hg|-;simp only at hg;split at h;case h_2=>exact h.elim
  rename_i d hd;rw[hd]at hg;simp only[Z0k]at hg;have hr:=he.at_ d hg;have g:=he.size;have f:d<a.tmps.size:=g▸hg;obtain⟨x,hx,c⟩:∃x,a.tmps[d]?=some x/\Rep G (T d) x:=⟨a.tmps[d],Z0Q f,by simpa[Array.getD,f]using hr⟩;have hy:yielded ops a.tmps j=match(generalizing:=false) x with|.bool b=>some b|_=>none:=by unfold yielded;simp only[hd,Z3i,hx];cases x<;>rfl
  split at h
  .rename_i b hb;rw[hb]at c;simp only[Rep]at c;subst c;simp only[hy];by_cases e:b=want
   .rw[Z0e e]at h;exact .inl ⟨by simp[e],h⟩
   .rw[Z0d e]at h;exact .inr ⟨by simp[e],h⟩
  .rename_i vs hb;rw[hb]at c;simp only[Rep]at c;subst c;simp only[hy];exact .inr ⟨by simp,h⟩
  .exact h.elim
def A9i{C:Ctx}{N:Nat}{h:A2u}{ops:Array Oper}{Q:Exit->Env->Mem->Prop}:∀(l:List Oper) (G0:A0o) (w0:World) (G:A0o) (T:Env) (M:Mem) (w:World) (a:Act),
 A1P N ops l=true->A8o C h ops l (λT M=>Q .normal T M) T M->G0.le G->Ext w0 w->Inv C G M w->A1R G N T a->wpList C.P ops (B1E C N Q G0 w0) l a w
 |[],G0,w0,G,T,M,w,a,_,hv,hle,hext,hi,he=>⟨T,M,G,hv,hle,hi,he,hext⟩
 |o::rest,G0,w0,G,T,M,w,a,hin,hv,hle,hext,hi,he=>by
  simp only[A1P,Z1n,Z0f]at hin;obtain⟨⟨ho,hg⟩,c⟩:=hin;have b:A1P N ops rest=true:=by simpa[A1P]using c
  simp only[A8o]at hv;simp only[wpList];rcases A9c (C:=C) (M:=M) (w:=w) he hg hv with⟨hw,hr⟩|⟨hw,hs⟩
  .rw[Z0e hw];left;refine A5n hi (A7Q hi he ho) hr _ _ ?_;intro v M' G' w' x hk h1 h2 h3 h4;exact A9i rest G0 w0 G' _ M' w' _ b hk (hle.trans h1) (hext.trans h4) h2 ((he.mono h1).put h3)
  .rw[Z0d (by simp[hw])];exact A9i rest G0 w0 G _ M w _ b hs hle hext hi (he.put (by simp[Rep]))
def B9Y{C}{N}{h}{id}{ops}{Q:Exit->Env->Mem->Prop}{T}{M}(b:A1P N ops ops.toList=true)(hv:A8o C h ops ops.toList (λT M=>Q .normal T M) T M):
 AWp C N (.region id ops false) Q T M:=
 λG w a hi he=>wp_region_list (A9i ops.toList G w G T M w a b hv (.refl _) (.refl _) hi he)
def C6V(C:Ctx)(T:Env)(M:Mem):ResultVar->Option AV
 |.tmp t=>some (T t)
 |.cell a ty=>(A3k M (T a)).bind (A1n C.P ty)
def A6L(C:Ctx)(T:Env)(M:Mem):List ResultVar->Option (List AV)
 |[]=>some []
 |r::rs=>match C6V C T M r,A6L C T M rs with
  |some v,some vs=>some (v::vs)
  |_,_=>none
def A3P(C:Ctx)(rs:List ResultVar)(T:Env)(M:Mem):Option AV:=
 match A6L C T M rs with
 |some [v]=>some v
 |some vs=>some (.tuple vs)
 |none=>none
def A4X(N:Nat):List ResultVar->Bool
 |[]=>true
 |.tmp t::rs=>decide (t<N)&&A4X N rs
 |.cell a _::rs=>decide (a<N)&&A4X N rs
def B4P(C:Ctx)(rs:List ResultVar)(Q:AV->Mem->Prop):Exit->Env->Mem->Prop
 |.normal,T,M|.ret,T,M=>match A3P C rs T M with
  |some r=>Q r M
  |none=>False
 |_,_,_=>False
def B6y(tmps:Array Value):ResultVar->Sem Value
 |.tmp t=>pure (tmps.getD t undef)
 |.cell b t=>do loadVar t (<-asAddr (tmps.getD b undef))
def A8G(fn:Func)(tmps:Array Value):results fn tmps=(do
 let vs <-fn.results.mapM (B6y tmps)
 pure (if h:vs.size=1 then vs[0]else .tuple vs)):=by
 unfold results
 congr 1
def A7k{C}{G}{M}{w}{N}{T}{a}(hi:Inv C G M w)(he:A1R G N T a):∀(rs:List ResultVar) (vs:List AV),A4X N rs=true->A6L C T M rs=some vs->
 ∃xs,(rs.mapM (B6y a.tmps)).run C.P w=.ok xs w/\A0t G vs xs
 |[],vs,_,h=>by simp[A6L]at h;subst h;exact⟨[],by simp,by simp[A0t]⟩
 |r::rs,vs,hin,h=>by
  simp only[A6L]at h;split at h;case h_2=>simp at h
  rename_i v vs' h1 h2;simp only[Z0b]at h;subst h;cases r with
  |tmp t=>simp only[A4X,Z0f,Z0k]at hin;obtain⟨xs,q1,q2⟩:=A7k hi he rs vs' hin.2 h2;simp only[C6V,Z0b]at h1;subst h1;refine⟨a.tmps.getD t undef::xs,?_,by simp only[A0t];exact⟨_,_,rfl,he.at_ t hin.1,q2⟩⟩;simp only[Z3u,B6y,Z0E,Z0K,Z0u,q1]
  |cell b ty=>simp only[A4X,Z0f,Z0k]at hin;obtain⟨xs,q1,q2⟩:=A7k hi he rs vs' hin.2 h2;simp only[C6V,Z2l]at h1;obtain⟨cs,c,hl⟩:=h1;have hr:=he.at_ b hin.1;obtain⟨u,hu,d⟩:=B3U hi hr c hl;obtain⟨bb,ii,_,hp,_⟩:=C1p hi hr c;refine⟨u::xs,?_,by simp only[A0t];exact⟨_,_,rfl,d,q2⟩⟩;rw[hp]at hu;simp only[Instr.loadAt,Instr.sureAddr,Z0E,Z0K,Z0u]at hu;simp only[Z3u,B6y,Z0E,Z0K,Z0u,hp,asAddr,hu,q1]
def A8v{C}{f}{fn}{c}{args}{M}{Q:AV->Mem->Prop}{N}{rs}(hf:C.P.funcs[f]?=some fn)(hb:fn.body=some c)(hN:fn.ntmps=N)(d:fn.results=rs.toArray) (hn:decide (args.length<=N)=true)(g:A4X N rs=true)(h:AWp C N c (B4P C rs Q) (Env.of args) M):A0e C f args M Q:=by
 intro G w vs hi hr
 have j:=hr.length
 simp only[Z0k]at hn
 refine calls_of_wp hf hb ?_
 have he:=A1R.of (G:=G) (N-vs.length) hr
 rw[show vs.length+(N-vs.length)=N from by omega]at he
 have hw:=h G w _ hi he
 rw[hN]
 refine Z4q (by simpa using hw) ?_
 rintro e a' w' ⟨T',M',G',h1,h2,h3,h4,h5⟩
 have key:B4P C rs Q .ret T' M'->a'.defers=[]/\∃v,(results fn a'.tmps).run C.P w'=.ok v w'/\∃r M' G' v',Ending.returned v=.returned v'/\Q r M'/\G.le G'/\Inv C G' M' w'/\Rep G' r v'/\Ext w w':=by
  intro hq;refine⟨h4.defers,?_⟩;simp only[B4P]at hq;split at hq;case h_2=>exact hq.elim
  rename_i r hres;unfold A3P at hres;have a:∀vs',A6L C T' M' rs=some vs'->∃xs,(fn.results.mapM (B6y a'.tmps)).run C.P w'=.ok xs.toArray w'/\A0t G' vs' xs:=by intro vs' i;obtain⟨xs,q1,q2⟩:=A7k h3 h4 rs vs' g i;refine⟨xs,?_,q2⟩;rw[d];simp only[Z3m,Sem.run_map,q1,Z0u]
  cases hrl:A6L C T' M' rs with
  |none=>rw[hrl]at hres;simp at hres
  |some vs'=>
   rw[hrl]at hres;obtain⟨xs,q1,q2⟩:=a vs' hrl;have hl:=q2.length;by_cases h1':vs'.length=1
   .match vs',h1' with
    |[v],_=>simp only[Z0b]at hres;subst hres;simp only[A0t]at q2;obtain⟨x,_,rfl,hx,rfl⟩:=q2;exact⟨x,by simp only[A8G,Z0E,q1,Z0u,Z0K];simp,v,M',G',x,rfl,hq,h2,h3,hx,h5⟩
   .have b:r=.tuple vs':=by
     split at hres
     .rename_i v hv;cases hv;simp at h1'
     .rename_i vs'' _ hv;simp only[Z0b]at hv hres;subst hv;exact hres.symm
     .rename_i hv;simp at hv
    subst b;refine⟨.tuple xs.toArray,by simp only[A8G,Z0E,q1,Z0u,Z0K];simp[hl,h1'],_,M',G',_,rfl,hq,h2,h3,by simp only[Rep];exact⟨_,rfl,by simpa using q2⟩,h5⟩
 cases e with
 |normal=>exact key h1
 |ret=>exact key h1
 |exit id=>exact h1.elim
 |goto l=>exact h1.elim
 |panic ch=>exact h1.elim
 |outgrown=>exact h1.elim
def A4P(C:Ctx)(h:A2u)(N:Nat):Code->(Exit->Env->Mem->Prop)->Env->Mem->Prop
 |.skip,Q,T,M=>Q .normal T M
 |.label _,Q,T,M=>Q .normal T M
 |.region id ops draw,Q,T,M=>if draw=true then AWp C N (.region id ops true) Q T M else A8o C h ops ops.toList (λT M=>Q .normal T M) T M
 |.seq x y,Q,T,M=>A4P C h N x (A7v (A4P C h N y Q) Q) T M
 |.cond c x y,Q,T,M=>match T.ev C c with
  |.val (.bool b)=>if b=true then A4P C h N x Q T M else A4P C h N y Q T M
  |_=>False
 |.block id c,Q,T,M=>A4P C h N c (A5l id Q) T M
 |.exit id,Q,T,M=>Q (.exit id) T M
 |.ret,Q,T,M=>Q .ret T M
 |c,Q,T,M=>AWp C N c Q T M
def A1V(N:Nat):Code->Bool
 |.region _ ops draw=>draw||A1P N ops ops.toList
 |.seq x y=>A1V N x&&A1V N y
 |.cond c x y=>Operand.inside N c&&A1V N x&&A1V N y
 |.block _ c=>A1V N c
 |_=>true
def A5E{C:Ctx}{h:A2u}{N:Nat}:∀(c:Code) (Q:Exit->Env->Mem->Prop) (T:Env) (M:Mem),A1V N c=true->A4P C h N c Q T M->AWp C N c Q T M
 |.skip,Q,T,M,_,hv=>C6s hv
 |.label _,Q,T,M,_,hv=>C2t hv
 |.region id ops draw,Q,T,M,hin,hv=>by
  simp only[A4P]at hv;cases draw with
  |true=>simpa using hv
  |false=>exact B9Y (by simpa[A1V]using hin) (by simpa using hv)
 |.seq x y,Q,T,M,hin,hv=>by
  simp only[A1V,Z0f]at hin;simp only[A4P]at hv;refine B7I ((A5E x _ T M hin.1 hv).mono ?_);intro e T' M' hq;cases e with
  |normal=>exact A5E y Q T' M' hin.2 hq
  |_=>exact hq
 |.cond c x y,Q,T,M,hin,hv=>by
  simp only[A1V,Z0f]at hin;simp only[A4P]at hv;split at hv
  .rename_i b hb;refine C6I hin.1.1 hb (λe=>?_) (λe=>?_)
   .rw[Z0e e]at hv;exact A5E x Q T M hin.1.2 hv
   .rw[Z0d (by simp[e])]at hv;exact A5E y Q T M hin.2 hv
  .exact hv.elim
 |.block id c,Q,T,M,hin,hv=>C2V (A5E c _ T M (by simpa[A1V]using hin) hv)
 |.exit id,Q,T,M,_,hv=>C6L hv
 |.ret,Q,T,M,_,hv=>D0x hv
 |.loop c,Q,T,M,_,hv=>hv
 |.rangeFunc _ _ _ _,Q,T,M,_,hv=>hv
 |.scope _,Q,T,M,_,hv=>hv
 |.goto _,Q,T,M,_,hv=>hv
 |.refuse _,Q,T,M,_,hv=>hv
def B6x:Op->Bool
 |.call _=>true
 |_=>false
def A0X{α:Type}(o:Option α)(f:α->Prop):Prop:=match o with
 |some v=>f v
 |none=>False
@[simp] def C4T{α:Type}(v:α)(f:α->Prop):A0X (some v) f=f v:=(rfl)
@[simp] def D9w{α:Type}(f:α->Prop):A0X none f=False:=(rfl)
section
variable {C:Ctx} {h:A2u} {N:Nat} {Q:Exit->Env->Mem->Prop} {T:Env} {M:Mem} {K:AV->Mem->Prop} {ρ:Operand->AV}
def D8A:A4P C h N .skip Q T M=Q .normal T M:=rfl
def C2b{id:Nat}{l:List Oper}:A4P C h N (.region id l.toArray false) Q T M=A8o C h l.toArray l (λT M=>Q .normal T M) T M:=rfl
def D4f{x y:Code}:A4P C h N (.seq x y) Q T M=A4P C h N x (A7v (A4P C h N y Q) Q) T M:=rfl
def D7J{c:Operand}{x y:Code}{b:Bool}(hc:T.ev C c=.val (.bool b)):A4P C h N (.cond c x y) Q T M=if b=true then A4P C h N x Q T M else A4P C h N y Q T M:=by simp only[A4P,hc]
def D9N:A4P C h N .ret Q T M=Q .ret T M:=rfl
def B5a{K:Env->Mem->Prop}:A7v K Q .normal T M=K T M:=rfl
def D3x{K:Env->Mem->Prop}:A7v K Q .ret T M=Q .ret T M:=rfl
def C3d{rs}{Q:AV->Mem->Prop}:B4P C rs Q .ret T M=A0X (A3P C rs T M) (λr=>Q r M):=by simp only[B4P,A0X];cases A3P C rs T M<;>rfl
def C4m{rs}{Q:AV->Mem->Prop}:B4P C rs Q .normal T M=A0X (A3P C rs T M) (λr=>Q r M):=by simp only[B4P,A0X];cases A3P C rs T M<;>rfl
@[simp] def E8P{t:Nat}:T.ev C (.tmp t)=T t:=(rfl)
@[simp] def E3W{v}:T.ev C (.const v)=.val v:=(rfl)
@[simp] def E1J{g}:T.ev C (.global g)=C.gl g:=(rfl)
@[simp] def E6u{f:Nat}:T.ev C (.func f)=.func (.func f) [] []:=(rfl)
@[simp] def E8r{d j}{v}:T.put (some d) v j=if j=d then v else T j:=(rfl)
def C2I{ops:Array Oper}{K:Env->Mem->Prop}:A8o C h ops [] K T M=K T M:=rfl
def B7U{ops:Array Oper}{o:Oper}{a:List Oper}{K:Env->Mem->Prop}:A8o C h ops (o::a) K T M=A2F ops o T (A4z C h o (λv M'=>A8o C h ops a K (T.put o.dst v) M') (T.ev C) M) (A8o C h ops a K (T.put o.dst (.val undef)) M):=rfl
def A3f{ops:Array Oper}{d:Option Tmp}{op:Op}{t:TypeId}{p:String}{af:Array Edge}{run skip:Prop}:A2F ops ⟨d,op,t,p,af,none⟩ T run skip=run:=rfl
variable {d:Option Tmp} {t:TypeId} {p:String} {af:Array Edge} {g:Option (Nat×Bool)}
def C2A{x:Operand}:A4z C h ⟨d,.move x,t,p,af,g⟩ K ρ M=K (ρ x) M:=rfl
def B7l{x:Operand}:A4z C h ⟨d,.assign x,t,p,af,g⟩ K ρ M=K (ρ x) M:=rfl
def A3K{op}(a:B6x op=false)(hn:B0o C ⟨d,op,t,p,af,g⟩ ρ=false):A4z C h ⟨d,op,t,p,af,g⟩ K ρ M=A0X (A0U C h ⟨d,op,t,p,af,g⟩ ρ M) (λx=>K x.1 x.2):=by
 have e:A4z C h ⟨d,op,t,p,af,g⟩ K ρ M=(match A0U C h ⟨d,op,t,p,af,g⟩ ρ M with|some (v,M')=>K v M'|none=>B0o C ⟨d,op,t,p,af,g⟩ ρ=true/\∀b,K (.val (.bool b)) M):=by cases op<;>first|exact Bool.noConfusion a|rfl
 rw[e,hn];cases A0U C h ⟨d,op,t,p,af,g⟩ ρ M with
 |none=>simp
 |some x=>rfl
def D1f(C:Ctx)(o:Oper)(ρ:Operand->AV)(M:Mem):Option (AV×Mem):=match A1d C o ρ with
 |some v=>some (v,M)
 |none=>A6T C o ρ M
def B1j{o}(b:A2c C h o ρ M=none)(a:D1f C o ρ M=none):A0U C h o ρ M=match A0I C h o ρ with
 |some v=>some (v,M)
 |none=>A2b C h o ρ M:=by
 unfold A0U
 rw[b]
 change(match A0I C h o ρ with|some v=>some (v,M)|none=>match A2b C h o ρ M with|some r=>some r|none=>D1f C o ρ M)=_
 rw[a]
 cases A0I C h o ρ with
 |some v=>rfl
 |none=>cases A2b C h o ρ M<;>rfl
def B5h(P:Program)(op:BinOp)(t:TypeId)(x y:AV)(f:AV->Prop):Prop:=match A1B P op t x y with
 |some v=>f v
 |none=>A9k P op t x y=true/\∀b,f (.val (.bool b))
def C7x(C:Ctx)(o:Oper)(ρ:Operand->AV)(op:BinOp)(t:TypeId)(x y:AV)(f:AV->Prop):Prop:=match(A1B C.P op t x y).or (A1d C o ρ)with
 |some v=>f v
 |none=>A9k C.P op t x y=true/\∀b,f (.val (.bool b))
def A6g{P}{op}{t:TypeId}{x y}{f:AV->Prop}(h:A9k P op t x y=false):B5h P op t x y f=A0X (A1B P op t x y) f:=by unfold B5h A0X;rw[h];cases A1B P op t x y<;>simp
def B7V(c a b:AV):Option AV:=match c with
 |.val (.bool t)=>some (if t then a else b)
 |_=>none
@[simp] def D9v{t}{a b}:B7V (.val (.bool t)) a b=some (if t=true then a else b):=(rfl)
def B7q:AV->Option AV
 |.ptr b off=>some (.ptr b off)
 |.cptr cs=>some (.cptr cs)
 |.func (.func f) a c=>some (.func (.func f) a c)
 |.vptr f g off=>some (.vptr f g off)
 |_=>none
@[simp] def E0h{f g o}:B7q (.vptr f g o)=some (.vptr f g o):=(rfl)
@[simp] def E1H{b o}:B7q (.ptr b o)=some (.ptr b o):=(rfl)
@[simp] def E1l{cs}:B7q (.cptr cs)=some (.cptr cs):=(rfl)
@[simp] def E0U{f}{a c}:B7q (.func (.func f) a c)=some (.func (.func f) a c):=(rfl)
def C7A:AV->Option AV
 |.val (.bool b)=>some (.val (.bool !b))
 |_=>none
@[simp] def E0R{b}:C7A (.val (.bool b))=some (.val (.bool !b)):=(rfl)
def B1b(k:Option Nat)(x:AV):Option AV:=match k,x with
 |some k,.ptr b off=>some (.ptr b (off+k))
 |some k,.cptr cs=>some (.cptr (cs.drop k))
 |some k,.vptr f g off=>some (.vptr f g (off+k))
 |_,_=>none
@[simp] def D8z{k f g o}:B1b (some k) (.vptr f g o)=some (.vptr f g (o+k)):=(rfl)
@[simp] def D9D{k b o}:B1b (some k) (.ptr b o)=some (.ptr b (o+k)):=(rfl)
@[simp] def D7q{k}{cs}:B1b (some k) (.cptr cs)=some (.cptr (cs.drop k)):=(rfl)
def B0k(x:AV)(i:Nat):Option AV:=match x with
 |.tuple vs=>vs[i]?
 |_=>none
@[simp] def D3B{vs}{i}:B0k (.tuple vs) i=vs[i]?:=(rfl)
def A6q(e:Option (Option Nat))(x i:AV):Option AV:=match e,x,i with
 |some s,.list sz rows _,.val (.int _ i)=>if s=some sz/\0<=i/\i<rows.length then some (.cptr (rows.getD i.toNat []))else none
 |some s,.vref f g sz lo len,.val (.int _ i)=>if s=some sz/\0<=i/\i<len then some (.vptr f g ((lo+i.toNat)*sz))else none
 |_,_,_=>none
@[simp] def E0p{s sz f g lo len}{k}{i}:A6q (some (some s)) (.vref f g sz lo len) (.val (.int k i))=if s=sz/\0<=i/\i<len then some (.vptr f g ((lo+i.toNat)*sz))else none:=by simp[A6q]
@[simp] def E1n{s sz}{rows}{own}{k}{i}:A6q (some (some s)) (.list sz rows own) (.val (.int k i))=if s=sz/\0<=i/\i<rows.length then some (.cptr (rows.getD i.toNat []))else none:=by simp[A6q]
def A1y(P:Program)(t:TypeId)(M:Mem)(x:AV):Option AV:=(A3k M x).bind (A1n P t)
@[simp] def D9p{P}{t:TypeId}{M}{cs}:A1y P t M (.cptr cs)=A1n P t cs:=(rfl)
def A0b{P}{t:TypeId}{M}{b o}{bt:TypeId}{cs}(hb:M[b]?=some (.cells bt cs)):A1y P t M (.ptr b o)=if o<=cs.length then A1n P t (cs.drop o)else none:=by simp only[A1y,A3k,hb];split<;>rfl
def B1e(agg:Option Bool)(n:Option Nat)(cs:List AV):Option AV:=match agg,n with
 |some true,some n=>if n<=cs.length then some (.agg (cs.take n))else none
 |some false,some _=>cs.head?
 |_,_=>none
def A0j{P}{t:TypeId}{cs}:A1n P t cs=B1e (A2w P t) (A1u P t) cs:=by
 unfold A1n B1e;cases A2w P t with
 |none=>rfl
 |some b=>cases b<;>cases A1u P t<;>first|rfl|(cases cs<;>rfl)
@[simp] def C6v{n}{c}{cs}:B1e (some false) (some n) (c::cs)=some c:=(rfl)
@[simp] def D9s{n}{cs}:B1e (some true) (some n) cs=if n<=cs.length then some (.agg (cs.take n))else none:=(rfl)
def A0i(s:Option Nat)(M:Mem)(a v:AV):Option Mem:=match a with
 |.ptr b off=>match M[b]? with
  |some (.cells bt cs)=>if v.storable&&decide (off+v.cells.length<=cs.length)&&decide (s=some v.cells.length)then some (M.set b (.cells bt (A0d cs off v.cells)))else none
  |_=>none
 |.vptr f g off=>match M[f]? with
  |some (.vec vt sz cs g' hist)=>match hist.lookup g with
   |some n=>if v.storable&&decide (off+v.cells.length<=n*sz)&&decide (s=some v.cells.length)then some (M.set f (.vec vt sz (A0d cs off v.cells) g' (A0Y sz g off hist)))else none
   |none=>none
  |_=>none
 |_=>none
def A0f{n}{M}{b off}{v}{bt:TypeId}{cs}(hb:M[b]?=some (.cells bt cs)):A0i (some n) M (.ptr b off) v=if v.storable=true/\off+v.cells.length<=cs.length/\n=v.cells.length then some (M.set b (.cells bt (A0d cs off v.cells)))else none:=by simp only[A0i,hb,Z0f,Z0k,Z0b,and_assoc]
def B9G{op}{xt yt:TypeId}{x y}:A4z C h ⟨d,.binOp op xt x y yt,t,p,af,g⟩ K ρ M=C7x C ⟨d,.binOp op xt x y yt,t,p,af,g⟩ ρ op xt (ρ x) (ρ y) (λv=>K v M):=by
 have e:A4z C h ⟨d,.binOp op xt x y yt,t,p,af,g⟩ K ρ M=(match A0U C h ⟨d,.binOp op xt x y yt,t,p,af,g⟩ ρ M with|some (v,M')=>K v M'|none=>A9k C.P op xt (ρ x) (ρ y)=true/\∀b,K (.val (.bool b)) M):=rfl;rw[e];have e2:A0U C h ⟨d,.binOp op xt x y yt,t,p,af,g⟩ ρ M=((A1B C.P op xt (ρ x) (ρ y)).or (A1d C ⟨d,.binOp op xt x y yt,t,p,af,g⟩ ρ)).map λv=>(v,M):=by
  unfold A0U;change(match A1B C.P op xt (ρ x) (ρ y)with|some v=>some (v,M)|none=>match A1d C ⟨d,.binOp op xt x y yt,t,p,af,g⟩ ρ with|some v=>some (v,M)|none=>none)=_;cases A1B C.P op xt (ρ x) (ρ y)with
  |some v=>rfl
  |none=>cases A1d C ⟨d,.binOp op xt x y yt,t,p,af,g⟩ ρ<;>rfl
 rw[e2];unfold C7x;cases(A1B C.P op xt (ρ x) (ρ y)).or (A1d C ⟨d,.binOp op xt x y yt,t,p,af,g⟩ ρ)<;>rfl
def C1Y{lt:TypeId}{x}:A4z C h ⟨d,.load lt x,t,p,af,g⟩ K ρ M=A0X (A1y C.P lt M (ρ x)) (λv=>K v M):=by
 rw[A3K rfl rfl,B1j rfl rfl];simp only[A0I,A2b,A1y];cases hx:ρ x with
 |cptr cs=>simp only[A3k,Z3i];cases A1n C.P lt cs<;>rfl
 |ptr b o=>simp only[];cases(A3k M (AV.ptr b o)).bind (A1n C.P lt)<;>rfl
 |vptr f g o=>simp only[];cases(A3k M (AV.vptr f g o)).bind (A1n C.P lt)<;>rfl
 |_=>rfl
def C9S{lt:TypeId}{x y}:A4z C h ⟨d,.store lt x y,t,p,af,g⟩ K ρ M=A0X (A0i (A1u C.P lt) M (ρ x) (ρ y)) (λM'=>K (.val undef) M'):=by
 rw[A3K rfl rfl,B1j rfl rfl];simp only[A0I,A2b,A0i];cases hx:ρ x with
 |ptr b o=>
  simp only[];cases hb:M[b]? with
  |none=>rfl
  |some ob=>
   cases ob with
   |cells bt cs=>simp only[];split<;>rfl
   |_=>rfl
 |vptr f g o=>
  simp only[];cases hb:M[f]? with
  |none=>rfl
  |some ob=>
   cases ob with
   |vec vt sz cs g' hist=>
    simp only[];cases hist.lookup g with
    |none=>rfl
    |some n=>simp only[];split<;>rfl
   |_=>rfl
 |_=>rfl
def A0k(P:Program)(e:TypeId)(M:Mem):Option (AV×Mem):=match A0H P e with
 |some z=>if z.all (·.oneCell')then some (.ptr M.length 0,M++[.cells e (z.map .val)])else none
 |none=>none
def C9y{e:TypeId}:A4z C h ⟨d,.alloc e,t,p,af,g⟩ K ρ M=A0X (A0k C.P e M) (λx=>K x.1 x.2):=by rw[A3K rfl rfl,B1j rfl rfl];rfl
def C2a(imm:Bool)(e:TypeId)(M:Mem)(x:AV):Option (AV×Mem):=if x.storable=true then(if imm=true then some (.cptr x.cells,M)else some (.ptr M.length 0,M++[.cells e x.cells]))else none
def D5Z{e:TypeId}{x}:A4z C h ⟨d,.box e x,t,p,af,g⟩ K ρ M=A0X (C2a (A2t h.imm d) e M (ρ x)) (λx=>K x.1 x.2):=by rw[A3K rfl rfl,B1j rfl rfl];simp only[A0I,A2b,C2a];cases(ρ x).storable<;>cases A2t h.imm d<;>rfl
def A0x(P:Program)(t:TypeId)(parts:List (Nat×AV)):Option AV:=match A0H P t,P.underlying t with
 |some z,some (.struct _)=>if !A2G P t||!z.all (·.oneCell')then none else(A1b P t parts (z.map .val)).map .agg
 |_,_=>none
def A0l(P:Program)(t:TypeId)(n:Nat)(parts:List (Nat×AV)):Option AV:=match A1f P t with
 |some e=>match A1u P e,A0H P e with
  |some sz,some z=>if n*sz<=2^24/\z.length=sz/\z.all (·.oneCell')/\0<sz then
   (A0M sz parts (List.replicate n (z.map .val))).map λrows=>.list sz rows .full
   else none
  |_,_=>none
 |none=>none
def B7E{bt:TypeId}{n:Nat}{ps:List (Nat×Operand)}:A4z C h ⟨d,.buildSlice bt n ps.toArray,t,p,af,g⟩ K ρ M=if B7s C h bt d=true then A0X (A2m C.P bt n (ps.map λx=>(x.1,ρ x.2)) M) (λr=>K r.1 r.2)else A0X (A0l C.P bt n (ps.map λx=>(x.1,ρ x.2))) (λv=>K v M):=by
 rw[A3K rfl rfl];simp only[A0U,A0I,A2b,A2c];cases B7s C h bt d with
 |true=>simp only[Z0T];change A0X (match A2m C.P bt n (ps.map λx=>(x.1,ρ x.2)) M with|some r=>some r|none=>none) _=_;cases A2m C.P bt n (ps.map λx=>(x.1,ρ x.2)) M<;>rfl
 |false=>simp only[Z0H,Z1i,A0l];show A0X (match A0l C.P bt n (ps.map λx=>(x.1,ρ x.2))with|some v=>some (v,M)|none=>none) _=A0X (A0l C.P bt n (ps.map λx=>(x.1,ρ x.2))) _;cases A0l C.P bt n (ps.map λx=>(x.1,ρ x.2))<;>rfl
def C4o{mt:TypeId}:A4z C h ⟨d,.makeMap mt none,t,p,af,g⟩ K ρ M=K (.mapr M.length) (M++[.map [] 0]):=by rw[A3K rfl rfl];rfl
def B6Y{mt:TypeId}{m k}{ok}:A4z C h ⟨d,.lookup mt m k ok,t,p,af,g⟩ K ρ M=A0X (A1Y C.P mt M (ρ m) (ρ k) ok) (λv=>K v M):=by rw[A3K rfl rfl];simp only[A0U,A0I,A2b,A2c];cases A1Y C.P mt M (ρ m) (ρ k) ok<;>rfl
def B8A{mt:TypeId}{m k x}:A4z C h ⟨d,.mapUpdate mt m k x,t,p,af,g⟩ K ρ M=A0X (A2g C.P mt M (ρ m) (ρ k) (ρ x)) (λM'=>K (.val undef) M'):=by rw[A3K rfl rfl];simp only[A0U,A0I,A2b,A2c];cases A2g C.P mt M (ρ m) (ρ k) (ρ x)<;>rfl
def C4P{mt:TypeId}{m k x}:A4z C h ⟨d,.insert mt m k x,t,p,af,g⟩ K ρ M=A0X (A2g C.P mt M (ρ m) (ρ k) (ρ x)) (λM'=>K (.val undef) M'):=by rw[A3K rfl rfl];simp only[A0U,A0I,A2b,A2c];cases A2g C.P mt M (ρ m) (ρ k) (ρ x)<;>rfl
def C0p{st:TypeId}{l c}:A4z C h ⟨d,.makeSlice st l c,t,p,af,g⟩ K ρ M=A0X (A6E C.P st (ρ l) (ρ c) M) (λr=>K r.1 r.2):=by rw[A3K rfl rfl];change A0X (match A6E C.P st (ρ l) (ρ c) M with|some r=>some r|none=>none) _=_;cases A6E C.P st (ρ l) (ρ c) M<;>rfl
def D3T{x}{xt:TypeId}:A4z C h ⟨d,.call {callee:=.builtin .len,args:=#[x],argTypes:=#[xt]},t,p,af,g⟩ K ρ M=A0X ((A2y C.P xt (ρ x)).or (A4A C.P xt M (ρ x))) (λn=>K (.val (.int .i64 n)) M):=by
 simp only[A4z,A0U,A0I,A8z,Z0z,Z2b];cases hl:A2y C.P xt (ρ x)with
 |none=>cases hm:A4A C.P xt M (ρ x)<;>simp[hl,hm,A2b,A2c,A5x,B0o,goInt,A1d,A6T,B1V]
 |some n=>simp[hl,goInt]
def D4e(C:Ctx)(f:AV)(args:List AV)(M:Mem)(K:AV->Mem->Prop):Prop:=match f with
 |.func (.func g) first captured=>A4r C g (first++args++captured) M K
 |_=>False
def B4y(C:Ctx)(own vec:Bool)(t u:TypeId)(s x:AV)(M:Mem)(K:AV->Mem->Prop):Prop:=∃e sz bytes,B8v C.P t u sz bytes e/\A0X (A7e own vec e sz bytes s x M) (λr=>K r.1 r.2)
def C7h{s x}{st xt:TypeId}:A4z C h ⟨d,.call {callee:=.builtin .append,args:=#[s,x],argTypes:=#[st,xt]},t,p,af,g⟩ K ρ M=B4y C (A2t h.own d) (A2t h.vec d) st xt (ρ s) (ρ x) M K:=by
 simp only[A4z,B4y];congr;funext e;congr;funext sz;congr;funext bytes;cases A7e (A2t h.own d) (A2t h.vec d) e sz bytes (ρ s) (ρ x) M with
 |none=>rfl
 |some r=>rfl
end
@[simp] def C9U{α:Type}{c:Prop}[Decidable c](v:α)(f:α->Prop):A0X (if c then some v else none) f=(c/\f v):=by
 by_cases h:c<;>simp[h,A0X]
@[simp] def A2n{α β:Type}(o:Option α)(g:α->β)(f:β->Prop):A0X (o.map g) f=A0X o (λx=>f (g x)):=by
 cases o<;>rfl
@[simp] def E1V{mx}{k}{a b}:A8W mx (.val (.int k a)) (.val (.int k b))=some (.val (.int k (if mx=true then(if b>a then b else a)else(if b<a then b else a)))):=by
 simp[A8W]
attribute [simp] Value.oneCell' AV.storable AV.one AV.cells A0d A0j A3P A6L C6V A2t B1t A9b B0X goInt C2a
@[simp] def E2i{P}{op}{t:TypeId}{k}{a b}:A1B P op t (.val (.int k a)) (.val (.int k b))=(B0s op k a b).map .val:=by cases h:B0s op k a b<;>simp[A1B,A3q,A4T,h]
@[simp] def E2q{P}{op}{t:TypeId}{a b}:A1B P op t (.val (.string a)) (.val (.string b))=(B5A op a b).map .val:=by cases h:B5A op a b<;>simp[A1B,A3q,A4T,h]
@[simp] def D6K{P}{t:TypeId}{a b}(h:P.underlying t=some .bool):A1B P .eql t (.val (.bool a)) (.val (.bool b))=some (.val (.bool (a==b))):=by simp[A1B,A3q,h]
@[simp] def D5m{P}{t:TypeId}{a b}(h:P.underlying t=some .bool):A1B P .neq t (.val (.bool a)) (.val (.bool b))=some (.val (.bool !(a==b))):=by simp[A1B,A3q,h]
@[simp] def D6O{P}{t e:TypeId}{b o}(h:P.underlying t=some (.pointer e)):A1B P .eql t (.ptr b o) (.val (.pointer none))=some (.val (.bool false)):=by simp[A1B,A3q,A4p,h,A3Q,B5B]
attribute [simp] B0s
def D8g(a:ByteArray):∀(k i:Nat) (r:List UInt8),a.size-i=k->ByteArray.toList.loop a i r=r.reverse++a.data.toList.drop i:=by
 intro k;induction k with
 |zero=>
  intro i r h;rw[ByteArray.toList.loop];have:¬i<a.size:=by omega
  rw[Z0d this];rw[Z1Q (by simp;show a.size<=i;omega)];simp
 |succ k ih=>
  intro i r h;rw[ByteArray.toList.loop];have hi:i<a.size:=by omega
  rw[Z0e hi,ih (i+1) _ (by omega)];have b:i<a.data.toList.length:=by simpa using hi
  rw[Z0j b];have:a.get! i=a.data.toList[i]:=by show a.data[i]! =_;rw[getElem!_pos a.data i hi];simp
  rw[this];simp
def B5K(a:ByteArray):a.toList=a.data.toList:=by unfold ByteArray.toList;rw[D8g a (a.size-0) 0 [] rfl];simp
def D6r{a b:ByteArray}(h:a.data.toList=b.data.toList):a=b:=by obtain⟨⟨a⟩⟩:=a;obtain⟨⟨b⟩⟩:=b;simp at h;rw[h]
def D4U(a b:ByteArray):(a.toList==b.toList)=decide (a=b):=by rw[B5K,B5K,Z2L];simp only[Z3h,Z0k];exact⟨D6r,λh=>by rw[h]⟩
@[simp] def E3A(a b:ByteArray):B5A .eql a b=some (.bool (decide (a=b))):=by show some _=some _;rw[D4U]
@[simp] def E4e(a b:ByteArray):B5A .neq a b=some (.bool (!decide (a=b))):=by show some _=some _;rw[D4U]
@[simp] def E5m(a b:ByteArray):B5A .add a b=if((a.size+b.size:Nat):Int)>IntKind.i64.max then none else some (.string (a++b)):=(rfl)
def D4l{P}{op}{t:TypeId}{k}{a b}{f:AV->Prop}:B5h P op t (.val (.int k a)) (.val (.int k b)) f=A0X ((B0s op k a b).map .val) f:=by rw[A6g rfl];simp
def D3Q{P}{op}{t:TypeId}{a b}{f:AV->Prop}:B5h P op t (.val (.string a)) (.val (.string b)) f=A0X ((B5A op a b).map .val) f:=by rw[A6g rfl];simp
def D1F{P}{op}{t:TypeId}{a b}{f:AV->Prop}:B5h P op t (.val (.bool a)) (.val (.bool b)) f=A0X (A1B P op t (.val (.bool a)) (.val (.bool b))) f:=by rw[A6g rfl]
def D5E{P}{op}{t:TypeId}{b o}{y}{f:AV->Prop}:B5h P op t (.ptr b o) y f=A0X (A1B P op t (.ptr b o) y) f:=by rw[A6g rfl]
def C5l{P}{op}{t:TypeId}{v}{y}{f:AV->Prop}:B5h P op t (.val v) y f=A0X (A1B P op t (.val v) y) f:=by rw[A6g rfl]
def D3u{P}{op}{t:TypeId}{sz}{r}{rows}{own}{y}{f:AV->Prop}:B5h P op t (.list sz (r::rows) own) y f=A0X (A1B P op t (.list sz (r::rows) own) y) f:=by rw[A6g rfl]
def C0K{P}{op}{t e:TypeId}{sz}{own}{f:AV->Prop}(a:op=.eql\/op=.neq)(ht:P.underlying t=some (.slice e)):B5h P op t (.list sz [] own) (.val (.slice none 0 0)) f=∀b,f (.val (.bool b)):=by
 have h1:A1B P op t (.list sz [] own) (.val (.slice none 0 0))=none:=by rcases a with rfl|rfl<;>simp[A1B,A3q,A4T,A4p,ht,A3Q,B5B]
 have h2:A9k P op t (.list sz [] own) (.val (.slice none 0 0))=true:=by rcases a with rfl|rfl<;>simp[A9k,ht]
 unfold B5h;rw[h1,h2];simp
@[simp] def D4x{P}{t e:TypeId}{sz}{r}{rows}{own}(h:P.underlying t=some (.slice e)):A1B P .eql t (.list sz (r::rows) own) (.val (.slice none 0 0))=some (.val (.bool false)):=by simp[A1B,A3q,A4p,h,A3Q,B5B]
@[simp] def D6S{P:Program}{t e:TypeId}(h:P.underlying t=some (.slice e)):A1B P .neq t (.val (.slice none 0 0)) (.val (.slice none 0 0))=some (.val (.bool false)):=by simp[A1B,A3q,A4p,h,A3Q,B5B]
@[simp] def D5h{P:Program}{t e:TypeId}{sz:Nat}{r:List AV}{rows:List (List AV)}{own:Own}(h:P.underlying t=some (.slice e)):A1B P .neq t (.list sz (r::rows) own) (.val (.slice none 0 0))=some (.val (.bool true)):=by simp[A1B,A3q,A4p,h,A3Q,B5B]
@[simp] def D7a{n}:A1F n none=some n:=(rfl)
@[simp] def D7Q{n}{k}{i}:A1F n (some (.val (.int k i)))=if 0<=i/\i<=n then some i.toNat else none:=(rfl)
attribute [congr] ite_congr
def D0n(v:AV)(want:Bool)(run skip:Prop):Prop:=match v with
 |.val (.bool b)=>if b=want then run else skip
 |.val (.tuple _)=>skip
 |_=>False
def C8h(d:Option Tmp)(want:Bool)(T:Env)(run skip:Prop):Prop:=match d with
 |some d=>D0n (T d) want run skip
 |none=>False
def D2G{ops}{d}{op}{t:TypeId}{p}{af}{run skip:Prop}{j}{want}{T}:A2F ops ⟨d,op,t,p,af,some (j,want)⟩ T run skip=C8h ((ops[j]?).bind (·.dst)) want T run skip:=by
 unfold A2F C8h D0n
 rfl
def D0r(v:AV)(x y:Prop):Prop:=match v with
 |.val (.bool b)=>if b=true then x else y
 |_=>False
end Go.Abs
