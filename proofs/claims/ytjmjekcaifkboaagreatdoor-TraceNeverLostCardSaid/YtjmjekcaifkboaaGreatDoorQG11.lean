/- The texts AbsX10, AbsX11, AbsX12, AbsL, AbsM, AbsN, AbsO. -/
import Derived.Test.YtjmjekcaifkboaaGreatDoorQG10
import Derived.Lib.UnsafeStr
set_option linter.all false
namespace Go.Abs
section
variable {C:Ctx} {G:A0q} {M:Mem} {w:World}
def A7z(M:Mem)(x:AV):Option AV:=match x with
 |.val (.slice none 0 0)=>some (.val (.pointer none))
 |.vref f g sz lo len=>match M[f]? with
  |some (.vec _ _ _ _ hist)=>match hist.lookup g with
   |some n=>if lo<n then some (.vptr f g (lo*sz))else none
   |none=>none
  |_=>none
 |_=>none
def B6F(hi:Inv C G M w){x}{xv}(hx:Rep G x xv)(ts:Array TypeId)(ty:TypeId){v}(h:A7z M x=some v):∃u,(Builtin.unsafeSliceData_ ts ty #[xv]).run C.P w=.ok u w/\Rep G v u:=by
 unfold A7z at h
 split at h
 .simp only[Z0b]at h;subst h;simp only[Rep]at hx;subst hx;exact⟨_,rfl,ZAE⟩
 .rename_i f g sz lo len;split at h;case h_2=>simp at h
  rename_i ety sz2 cs g' hist hM;split at h;case h_2=>simp at h
  rename_i n hn;split at h;case isFalse=>simp at h
  rename_i hlt;simp only[Z0b]at h;subst h;simp only[Rep]at hx;obtain⟨hf,hg,a,a',cap,hdr,k,i,rfl,l,j,e⟩:=hx;obtain⟨_,p2,_⟩:=hi.obj f _ hM;obtain⟨_,_,b,o,c,vs,q1,q2,_⟩:=p2 g n (A2S hn);have d:=hdr;rw[q1]at hdr;simp only[Z0i,Z0b]at hdr;obtain⟨rfl,rfl⟩:=hdr;refine⟨_,Lib.run_unsafeSliceData_row w ts ty a' len (c-lo) Q0,?_⟩;simp only[Rep];exact⟨hf,hg,_,c,d,by rw[e Q0]⟩
 .simp at h
def B7X:List AV->Option (List UInt8)
 |[]=>some []
 |.val (.int .u8 n)::cs=>if 0<=n/\n<256 then(B7X cs).map (UInt8.ofNat n.toNat::·)else none
 |_=>none
def B8i:∀(cs:List AV) (l:List UInt8) (vs:List Value),B7X cs=some l->A0v G cs vs->vs=Lib.byteCells l
 |[],l,vs,h,hr=>by simp only[B7X,Z0b]at h;subst h;simp only[A0v]at hr;subst hr;rfl
 |c::cs,l,vs,h,hr=>by
  unfold B7X at h;split at h
  .rename_i h1;simp at h1
  .rename_i n cs' he;simp only[Z2e]at he;obtain⟨rfl,rfl⟩:=he;split at h;(case isFalse=>simp at h);rename_i hc;simp only[Z0l]at h;obtain⟨l',a,rfl⟩:=h;simp only[A0v]at hr;obtain⟨y,ys,rfl,hy,b⟩:=hr;simp only[Rep]at hy;subst hy;have:=B8i _ _ _ a b;subst this;(have hn:((UInt8.ofNat n.toNat).toNat:Int)=n:=by rw[UInt8.toNat_ofNat'];omega);simp only[Lib.byteCells,Z0x,hn]
  .simp at h
def A7u(P:Program)(pt:TypeId)(M:Mem)(p n:AV):Option (AV×Mem):=match n with
 |.val (.int .i64 n)=>if n=0 then(match p with
  |.val (.pointer none)=>some (.val (.string .empty),M)
  |.vptr _ _ _=>some (.val (.string .empty),M)
  |_=>none)else match p with
  |.vptr f g off=>match P.underlying pt,M[f]? with
   |some (.pointer e),some (.vec ty 1 cs _ hist)=>match hist.lookup g with
    |some m=>if 0<n/\off+n.toNat<=m/\ty=e/\P.cellsOf e=1/\n<=9223372036854775807 then match B7X ((cs.drop off).take n.toNat)with
     |some l=>some (.val (.string ⟨l.toArray⟩),M.set f .gone)
     |none=>none
     else none
    |none=>none
   |_,_=>none
  |_=>none
 |_=>none
def D2b{P}{e:TypeId}(hc:P.cellsOf e=1)(a off n:Nat)(hn:off+n<=a):liesAt P P.depth e a off e n=true:=by have hd:P.depth=(2*(P.types.size+Made.depth)+1)+1:=rfl;rw[hd];simp only[liesAt,Z1V];left;rw[hd];simp[rowAt,hc,hn,sameLayout,Nat.mod_one]
def B2u{P}(w:World)(pt it ty e:TypeId)(hp:P.underlying pt=some (.pointer e))(hc:P.cellsOf e=1)(g o cells:Nat)(p:w.shape? g=some (e,cells))(l:List UInt8)(h0:l≠[])(hn:o+l.length<=cells)(q:l.length<=9223372036854775807)
 (c:∀j x,l[j]?=some x->w.cell? ((⟨g,o,none⟩:Addr).add j)=some (.int .u8 x.toNat)):
 (Builtin.unsafeString_ #[pt,it] ty #[.pointer (some ⟨g,o,none⟩),.int .i64 l.length]).run P w=.ok (.string ⟨l.toArray⟩) (w.freeze ⟨g,o,none⟩ l.length):=by
 have hl:l.length≠0:=by simpa using h0
 have m:=Lib.run_loadBytes (P:=P) w l ⟨g,o,none⟩ .empty c
 have b:=D2b (P:=P) hc (cells/P.cellsOf e) o l.length (by rw[hc];simpa using hn)
 have k:¬(9223372036854775807:Int)<(l.length:Int):=Q0
 have d:Builtin.unsafeString_ #[pt,it] ty #[.pointer (some ⟨g,o,none⟩),.int .i64 l.length]=
  (do
   let n <-asInt (.int .i64 l.length)
   if n<0 then runtimePanic (.error "unsafe.String: len out of range")
   if n>IntKind.i64.max then unsupported (.unsafePointer "String: a length above the largest int")
   if n=0 then pure (.string .empty)
   else if<-variablesAt ⟨g,o,none⟩ (<-elemOf pt) n.toNat then do
    let s <-loadBytes ⟨g,o,none⟩ .empty n.toNat
    freeze ⟨g,o,none⟩ n.toNat
    pure (.string s)
   else unsupported (.unsafePointer "String: not so many bytes at ptr")):=rfl
 rw[d]
 have i:IntKind.i64.max=9223372036854775807:=rfl
 have f:¬(l.length:Int)<0:=Q0
 simp[asInt,asIntOf,i,k,f,hl,variablesAt,p,elemOf,Z0q hp,b,m]
def C4k(w:World)(a:Addr)(n b:Nat)(h:b≠a.block):(w.freeze a n).heap[b]?=w.heap[b]?:=by
 unfold World.freeze;split
 .rfl
 .simp only[Z4H];rw[Z0d (λe=>h e.symm)]
def B6J(hi:Inv C G M w){p n}{pv nv}(hp:Rep G p pv)(hn:Rep G n nv){pt it ty:TypeId}{v}{M'}(h:A7u C.P pt M p n=some (v,M')):∃u w',(Builtin.unsafeString_ #[pt,it] ty #[pv,nv]).run C.P w=.ok u w'/\Inv C G M' w'/\Rep G v u/\Ext w w':=by
 unfold A7u at h
 split at h
 case h_2=>simp at h
 rename_i n
 simp only[Rep]at hn
 subst hn
 split at h
 .rename_i h0;subst h0;split at h
  .simp only[Z0b,Z0i]at h;obtain⟨rfl,rfl⟩:=h;simp only[Rep]at hp;subst hp;exact⟨_,w,Lib.run_unsafeString_none w _ _ _ _,hi,ZAE,.refl _⟩
  .simp only[Z0b,Z0i]at h;obtain⟨rfl,rfl⟩:=h;simp only[Rep]at hp;obtain⟨_,_,a,cap,_,rfl⟩:=hp;exact⟨_,w,Lib.run_unsafeString_none w _ _ _ _,hi,ZAE,.refl _⟩
  .simp at h
 .rename_i h0;split at h;case h_2=>simp at h
  rename_i f g off;split at h;case h_2=>simp at h
  rename_i e ety cs g' hist hu hM;split at h;case h_2=>simp at h
  rename_i m hm;split at h;case isFalse=>simp at h
  rename_i hc;obtain⟨z,a0,rfl,d,a1⟩:=hc;split at h;case h_2=>simp at h
  rename_i l hl;simp only[Z0b,Z0i]at h;obtain⟨rfl,rfl⟩:=h;simp only[Rep]at hp;obtain⟨hf,hg,a,cap,hdr,rfl⟩:=hp;obtain⟨_,p2,_⟩:=hi.obj f _ hM;obtain⟨_,q0,b,o,y,vs,q1,q2,q3,q4,q5,q6,q7,q8,q9⟩:=p2 g m (A2S hm);rw[q1]at hdr;simp only[Z0i,Z0b]at hdr;obtain⟨rfl,rfl⟩:=hdr;simp only[Z3G]at q0 q5 q6 q7;have r:A0v G ((cs.drop off).take n.toNat) ((vs.toList.drop (o+off)).take n.toNat):=by have h1:=(q6.drop off).take n.toNat;rw[Z2K,Z1Y,Z2K,Z1Y,Z2b]at h1;rw[Z1F Q0]at h1;exact h1
  have s:=B8i _ _ _ hl r;have k:l.length=n.toNat:=by have:=congrArg List.length s;rw[Lib.byteCells_length,Z0t,Z0G,Z0X]at this;omega
  have t:(n:Int)=(l.length:Int):=Q0;have q:=B2u (P:=C.P) w pt it ty ety hu d b (o+off) vs.size (by simp[World.shape?,q4]) l (by intro e;subst e;simp at k;omega) Q0 Q0 (λj x hx=>by
   (have h1:(Lib.byteCells l)[j]?=some (.int .u8 x.toNat):=by simp[Lib.byteCells,hx]);rw[<-s,Z0B]at h1
   split at h1
   .rw[Z0H]at h1;rw[Z1k,Z2U _ _ _ _ _ _ q4];simpa using h1
   .simp at h1)
  rw[t];refine⟨_,_,q,?_,ZAE,?_⟩
  .refine hi.step f b hM (.inl ⟨g,m,_,A2S hm,congrArg Prod.fst q1,rfl⟩) (.refl _) rfl (λ_=>rfl) (λ_ _=>⟨rfl,rfl⟩) (λb i v h=>.inl h) (λ_=>rfl) (λc _ hne=>C4k w _ _ _ hne) (λi v hv=>by rw[q8 i]at hv;simp at hv) (λo ho=>by rw[q9]at ho;simp at ho) trivial (λb hb=>hb.elim)
  .unfold World.freeze;split
   .exact .refl _
   .exact⟨rfl,rfl,rfl,Q1⟩
end
section
variable {C:Ctx} {G:A0q} {M:Mem} {w:World}
def B9X{P}{t u e:TypeId}{ty:TypeId}{sz}{x}{a}{n cap m}{w w'}(ht:P.underlying t=some (.slice e))(f:A1n P e=some sz)
 (hu:A4j P u)(hx:∀w,(Builtin.lenOf x).run P w=.ok m w)
 {news}(d:(Builtin.firstCells sz m x).run P w=.ok news.toArray w)(c:n+m<=cap)(b:(storeCells (a.add (n*sz)) news).run P w=.ok () w'):
 (Builtin.append_ #[t,u] ty #[.slice (some a) n cap,x]).run P w=.ok (.slice (some a) (n+m) cap) w':=by
 obtain⟨e2,hu⟩|hu:=hu
 all_goals simp[Builtin.append_,Z0q ht,Z0q hu,A1U f,hx,d,c,b]
def A5q(e:TypeId)(sz:Nat)(s x:AV)(M:Mem):Option (AV×Mem):=
 match A0D M sz x,s with
 |some (news,m),.vref f h s' lo len=>match M[f]? with
  |some (.vec e2 s2 cs g hist)=>match hist.lookup h with
   |some n=>if e2=e/\s'=sz/\s2=sz/\0<m/\lo+len+m<=n then
    some (.vref f h sz lo (len+m),M.set f (.vec e sz (A0e cs ((lo+len)*sz) news) g (A0Q sz h ((lo+len)*sz) hist)))
    else none
   |none=>none
  |_=>none
 |_,_=>none
def C3f(hi:Inv C G M w){s x}{sv xv}(hs:Rep G s sv)(hx:Rep G x xv){t u e ty:TypeId}{sz}(ht:C.P.underlying t=some (.slice e))(hu:A4j C.P u)
 (p:A1n C.P e=some sz){v}{M'}(h:A5q e sz s x M=some (v,M')):
 ∃r w',(Builtin.append_ #[t,u] ty #[sv,xv]).run C.P w=.ok r w'/\Inv C G M' w'/\Rep G v r/\Ext w w':=by
 unfold A5q at h
 split at h
 case h_2=>simp at h
 rename_i news m f h' s' lo len hsrc
 obtain⟨a3,l,j,i,y,a5⟩:=A7M hi hx hsrc
 split at h
 case h_2=>simp at h
 rename_i e2 s2 cs g hist hM
 split at h
 case h_2=>simp at h
 rename_i n hn
 split at h
 case isFalse=>simp at h
 rename_i hc
 obtain⟨rfl,rfl,rfl,a8,a7⟩:=hc
 simp only[Z0b,Z0i]at h
 obtain⟨rfl,rfl⟩:=h
 simp only[Rep]at hs
 obtain⟨hf,hg,a,a',cap,hdr,a9,a6,rfl,aa,z,a0⟩:=hs
 obtain⟨_,p2,_⟩:=hi.obj f _ hM
 obtain⟨_,q0,b,o,c,vs,q1,q2,_⟩:=p2 h' n (A2S hn)
 have d:=hdr
 rw[q1]at hdr
 simp only[Z0i,Z0b]at hdr
 obtain⟨rfl,rfl⟩:=hdr
 have ha:=a0 Q0
 subst ha
 have a4:news.length=m*s2:=by rw[<-l.length];exact j
 have hb:(lo+len)*s2+news.length<=n*s2:=by rw[a4,<-Z0R];exact Z0V _ Q0
 obtain⟨a2,w',k,a1,h2,h3⟩:=A7m hi (f:=f) (g:=h') (off:=(lo+len)*s2) (x:=.pointer (some ⟨b,o+(lo+len)*s2,none⟩)) (by simp only[Rep];exact⟨hf,hg,_,c,d,rfl⟩) l i hM hn hb
 simp only[Z2X,Z0b]at k
 subst k
 have q:(storeCells ((⟨b,o+lo*s2,none⟩:Addr).add (len*s2)) a3).run C.P w=.ok () w':=by rw[Z1k,Z2F,<-Z0R];exact a1
 refine⟨_,w',B9X ht p hu y (a5 w rfl) Q0 q,h2,?_,h3⟩
 simp only[Rep]
 exact⟨hf,hg,_,_,c,d,rfl,rfl,rfl,Q0,z,λ_=>rfl⟩
end
section
variable {C:Ctx} {G:A0q} {M:Mem} {w:World}
def B1j(P:Program)(b:Builtin)(ts:List TypeId)(args:List AV)(M:Mem):Option (AV×Mem):=match b,ts,args with
 |.clear,[t],[x]=>A7L P t M x
 |.unsafeSliceData,_,[x]=>(A7z M x).map λv=>(v,M)
 |.unsafeString,[pt,it],[p,n]=>A7u P pt M p n
 |_,_,_=>none
def B7p(hi:Inv C G M w){b}{ts}{args}{xs}(hr:A0v G args xs.toList){v}{M'}(h:B1j C.P b ts.toList args M=some (v,M'))(ty:TypeId)(a:Array Bool):∃u w',(builtin b ts ty a xs).run C.P w=.ok (.value u) w'/\Inv C G M' w'/\Rep G v u/\Ext w w':=by
 obtain⟨xs⟩:=xs
 obtain⟨ts⟩:=ts
 simp only at hr h
 unfold B1j at h
 split at h
 .simp only[A0v]at hr;obtain⟨y,_,rfl,hy,rfl⟩:=hr;obtain⟨r,w',h1,h2,h3,h4⟩:=C4O (ty:=ty) hi hy h;exact⟨r,w',ZBY,h2,h3,h4⟩
 .simp only[A0v]at hr;obtain⟨y,_,rfl,hy,rfl⟩:=hr;simp only[Z0l,Z0i]at h;obtain⟨v',hv,rfl,rfl⟩:=h;obtain⟨u,h1,h2⟩:=B6F hi hy ts.toArray ty hv;exact⟨u,w,ZBY,hi,h2,.refl _⟩
 .rename_i pt it p n;simp only[A0v]at hr;obtain⟨y,_,rfl,hy,y2,_,rfl,c,rfl⟩:=hr;obtain⟨r,w',h1,h2,h3,h4⟩:=B6J (ty:=ty) (it:=it) hi hy c h;exact⟨r,w',ZBY,h2,h3,h4⟩
 .simp at h
def A7I(C:Ctx)(o:Oper)(ρ:Operand->AV)(M:Mem):Option (AV×Mem):=match o.op with
 |.range t x=>B0c C.P t (ρ x) M
 |.next x true=>A9b (ρ x) M
 |.slice t x lo hi mx=>(A3W C.P t M (ρ x) (lo.map ρ) (hi.map ρ) (mx.map ρ)).map λv=>(v,M)
 |.convert s d x=>match B6Q C.P s d (ρ x)with
  |some v=>some (v,M)
  |none=>(D3h C.P s d M (ρ x)).map λv=>(v,M)
 |.call {callee:=.builtin b,args,argTypes}=>B1j C.P b argTypes.toList (args.toList.map ρ) M
 |_=>none
def D6p(hi:Inv C G M w){o}{ρ:Operand->AV}{σ:Operand->Value}(hρ:∀x∈o.op.operands.toList,Rep G (ρ x) (σ x)){v}{M'}(h:A7I C o ρ M=some (v,M')):A3z C G w (execOp σ o) v M':=by
 obtain⟨dst,op,type,pos,after,guard⟩:=o;simp only at hρ;unfold A7I at h;simp only at h;split at h
 .rename_i t x;obtain⟨u,w',G',h1,h2,h3,h4,h5⟩:=C5Z hi (hρ x ZAA) h;exact⟨_,w',G',A3L h1,.inl ⟨u,rfl,h4⟩,h2,h3,h5⟩
 .rename_i x;obtain⟨u,w',h1,h2,h3,h4⟩:=C6X hi (hρ x ZAA) type h;exact⟨_,w',G,A3L h1,.inl ⟨u,rfl,h3⟩,.refl _,h2,h4⟩
 .rename_i t x lo hi' mx;simp only[Z0l,Z0i]at h;obtain⟨v',hv,rfl,rfl⟩:=h;have e:∀(y:Option Operand),(∀q,y=some q->Rep G (ρ q) (σ q))->∀a,y.map ρ=some a->∃z,y.map σ=some z/\Rep G a z:=λy hy a ha=>by
   cases y with
   |none=>simp at ha
   |some q=>simp at ha;subst ha;exact⟨_,rfl,hy q rfl⟩
  obtain⟨u,h1,h2⟩:=B6G (w:=w) hi (hρ x ZAA) (e lo (λq hq=>hρ q (by simp[Op.operands,hq]))) (by cases lo<;>simp) (e hi' (λq hq=>hρ q (by simp[Op.operands,hq]))) ZDN (e mx (λq hq=>hρ q (by simp[Op.operands,hq]))) (by cases mx<;>simp) hv;exact A3z.same hi (x:=u) (A3L h1) h2
 .rename_i s d x;split at h
  .rename_i v' hv;simp only[Z0b,Z0i]at h;obtain⟨rfl,rfl⟩:=h;obtain⟨u,w',G',h1,h2,h3,h4,h5⟩:=C4K hi (hρ x ZAA) hv;exact⟨_,w',G',A3L h1,.inl ⟨u,rfl,h4⟩,h2,h3,h5⟩
  .simp only[Z0l,Z0i]at h;obtain⟨v',hv,rfl,rfl⟩:=h;obtain⟨u,h1,h2⟩:=C5z (w:=w) hi (hρ x ZAA) hv;exact A3z.same hi (x:=u) (A3L h1) h2
 .rename_i b args ts;have c:A0v G (args.toList.map ρ) (args.map σ).toList:=by have:=A8x (G:=G) args.toList (λx hx=>hρ x ZBV);simpa using this
  obtain⟨u,w',h1,h2,h3,h4⟩:=B7p hi c h type (args.map λx=>x matches .const _);refine⟨.value u,w',G,?_,.inl ⟨u,rfl,h3⟩,.refl _,h2,h4⟩;simp only[execOp,resolve,Z0E,Z0O,Z0u,invoke];exact h1
 .simp at h
end
def A1V(C:Ctx)(h:A2r)(o:Oper)(ρ:Operand->AV)(M:Mem):Option (AV×Mem):=
 match o.op with
 |.load t x=>match ρ x with
  |.ptr b off=>((A2g M (.ptr b off)).bind (A0p C.P t)).map λv=>(v,M)
  |.vptr f g off=>((A2g M (.vptr f g off)).bind (A0p C.P t)).map λv=>(v,M)
  |_=>none
 |.store t a x=>match ρ a with
  |.ptr b off=>match M[b]? with
   |some (.cells bt cs)=>if(ρ x).storable&&decide (off+(ρ x).cells.length<=cs.length)&&decide (A1n C.P t=some (ρ x).cells.length)then some (.val undef,M.set b (.cells bt (A0e cs off (ρ x).cells)))else none
   |_=>none
  |.vptr f g off=>match M[f]? with
   |some (.vec vt sz cs g' hist)=>match hist.lookup g with
    |some n=>if(ρ x).storable&&decide (off+(ρ x).cells.length<=n*sz)&&decide (A1n C.P t=some (ρ x).cells.length)then some (.val undef,M.set f (.vec vt sz (A0e cs off (ρ x).cells) g' (A0Q sz g off hist)))else none
    |none=>none
   |_=>none
  |_=>none
 |.alloc e=>match A0G C.P e with
  |some z=>if z.all (·.oneCell')then some (.ptr M.length 0,M++[.cells e (z.map .val)])else none
  |none=>none
 |.box e x=>if(ρ x).storable then some (.ptr M.length 0,M++[.cells e (ρ x).cells])else none
 |_=>none
def A0W(C:Ctx)(h:A2r)(o:Oper)(ρ:Operand->AV)(M:Mem):Option (AV×Mem):=
 match A0J C h o ρ with
 |some v=>some (v,M)
 |none=>match A1V C h o ρ M with
  |some r=>some r
  |none=>match A1X C h o ρ M with
   |some r=>some r
   |none=>match A1c C o ρ with
    |some v=>some (v,M)
    |none=>A7I C o ρ M
section
variable {C:Ctx} {G:A0q} {M:Mem} {w:World}
def D8i{P}{s}{w w'}(h:s.run P w=.ok () w'):(do s;pure .skip:Sem Next).run P w=.ok .skip w':=by simp only[Z0E,h,Z0u,Z0O]
def D1g(hi:Inv C G M w){o}{ρ:Operand->AV}{σ:Operand->Value}(hρ:∀x∈o.op.operands.toList,Rep G (ρ x) (σ x)){hn}{v}{M'}(h:A1V C hn o ρ M=some (v,M')):A3z C G w (execOp σ o) v M':=by
 obtain⟨dst,op,type,pos,after,guard⟩:=o;simp only at hρ;unfold A1V at h;simp only at h;split at h
 .rename_i t x;have hx:=hρ x ZAA;split at h;case h_3=>simp at h
  all_goals
   rename_i he
   rw[he]at hx
   simp only[Z0l,Z2j,Z0i]at h
   obtain⟨r,⟨cs,c,hl⟩,rfl,rfl⟩:=h
   obtain⟨u,hu,i⟩:=B3l hi hx c hl
   exact A3z.same hi (x:=u) (A3L hu) i
 .rename_i t a x;have ha:=hρ a ZAA;have hx:=hρ x ZAA;split at h;case h_3=>simp at h
  .rename_i b off he;rw[he]at ha;split at h;(case h_2=>simp at h);rename_i bt cs c;split at h;(case isFalse=>simp at h);rename_i hc;simp only[Z0h,Z0n]at hc;simp only[Z0b,Z0i]at h;obtain⟨rfl,rfl⟩:=h;obtain⟨w',h1,h2,h3⟩:=C4q hi ha hx c hc.1.1 hc.2 hc.1.2;exact⟨_,w',G,D8i h1,.inr ⟨rfl,rfl⟩,.refl _,h2,h3⟩
  .rename_i f g off he;rw[he]at ha;split at h;(case h_2=>simp at h);rename_i vt sz cs g' hist hM;split at h;(case h_2=>simp at h);rename_i n hn;split at h;(case isFalse=>simp at h);rename_i hc;simp only[Z0h,Z0n]at hc;simp only[Z0b,Z0i]at h;obtain⟨rfl,rfl⟩:=h;obtain⟨w',h1,h2,h3⟩:=C2N hi ha hx hM hn hc.1.1 hc.2 hc.1.2;exact⟨_,w',G,D8i h1,.inr ⟨rfl,rfl⟩,.refl _,h2,h3⟩
 .rename_i e;split at h;case h_2=>simp at h
  rename_i z hz;split at h;case isFalse=>simp at h
  rename_i hall;simp only[Z0b,Z0i]at h;obtain⟨rfl,rfl⟩:=h;obtain⟨zv,hv,d,j⟩:=A9P (P:=C.P) hz G w;obtain⟨G',h1,h2,h3,h4⟩:=hi.newBox e (vs:=zv.cells) (by rw[d];exact j) (λy hy=>by rw[d]at hy;exact Z0D.1 hall y hy);refine⟨_,_,G',A3L (v:=.pointer (some ⟨w.heap.size,0,none⟩)) (w':=w.alloc (.cells zv.cells e)) ?_,.inl ⟨_,rfl,by simp only[Rep];exact⟨h4,by rw[h3]⟩⟩,h2,h1,Ext.alloc _ _⟩;simp only[Instr.alloc,Z0E,hv,Z0u,newVar,newRow,Z3T,Z0O];rfl
 .rename_i e x;have hx:=hρ x ZAA;split at h;case isFalse=>simp at h
  rename_i hs;simp only[Z0b,Z0i]at h;obtain⟨rfl,rfl⟩:=h;obtain⟨c1,c2⟩:=hx.cells hs;obtain⟨G',h1,h2,h3,h4⟩:=hi.newBox e (vs:=(σ x).cells) c1 c2;refine⟨_,_,G',A3L (v:=.pointer (some ⟨w.heap.size,0,none⟩)) (w':=w.alloc (.cells (σ x).cells e)) ?_,.inl ⟨_,rfl,by simp only[Rep];exact⟨h4,by rw[h3]⟩⟩,h2,h1,Ext.alloc _ _⟩;simp only[Instr.box,newVar,newRow,Z0E,Z3T,Z0u,Z0O];rfl
 .simp at h
def C2p(hi:Inv C G M w){o}{ρ:Operand->AV}{σ:Operand->Value}(hρ:∀x∈o.op.operands.toList,Rep G (ρ x) (σ x)){hn}{v}{M'}(h:A0W C hn o ρ M=some (v,M')):A3z C G w (execOp σ o) v M':=by
 unfold A0W at h;split at h
 .rename_i u hu;simp only[Z0b,Z0i]at h;obtain⟨rfl,rfl⟩:=h;exact C6j hi hρ hu
 .split at h
  .rename_i r hr;simp only[Z0b]at h;subst h;exact D1g hi hρ hr
  .split at h
   .rename_i r hr;simp only[Z0b]at h;subst h;exact C7y hi hρ hr
   .split at h
    .rename_i u hu;simp only[Z0b,Z0i]at h;obtain⟨rfl,rfl⟩:=h;exact B6u hi hρ hu
    .exact D6p hi hρ h
end
def B6O(vec:Bool):AV->Bool
 |.vref _ _ _ _ _=>true
 |.val (.slice none 0 0)=>vec
 |.list _ [] .full=>vec
 |_=>false
def B2c(sz:Nat):AV->Bool
 |.list s _ _=>s==sz
 |_=>true
def C5H{sz}{v}:B2c sz v=true<->B3f sz v:=by cases v<;>simp[B2c,B3f]
def A6L(own vec:Bool)(e:TypeId)(sz bytes:Nat)(s x:AV)(M:Mem):Option (AV×Mem):=
 if B6O vec s then match A0D M sz s,A0D M sz x with
  |some (_,k),some (_,m)=>if(k+m)*bytes<=140737488355328 then(match A5q e sz s x M with|some r=>some r|none=>A6u e sz s x M)else none
  |_,_=>none
 else if B2c sz s&&B2c sz x&&decide ((A7n s+A7n x)*bytes<=140737488355328)then A9N own sz s x M else none
def C2C{C}{G}{M}{w}(hi:Inv C G M w){s x}{sv xv}(hs:Rep G s sv)(hx:Rep G x xv){t u e ty:TypeId}{sz bytes}(ht:A1b C.P t=some e)(hu:A4j C.P u)
 (he:A4g C.P e sz bytes){own vec}{v}{M'}(h:A6L own vec e sz bytes s x M=some (v,M')):
 ∃r w' G',(Builtin.append_ #[t,u] ty #[sv,xv]).run C.P w=.ok r w'/\G.le G'/\Inv C G' M' w'/\Rep G' v r/\Ext w w':=by
 unfold A6L at h
 split at h
 .split at h
  .rename_i cs k news m h1 h2;split at h;(case isFalse=>simp at h);rename_i hb;split at h
   .rename_i r hr;simp only[Z0b]at h;subst h;obtain⟨i,z,a,hz,b,_⟩:=he;obtain⟨r,w',k1,k2,k3,k4⟩:=C3f (ty:=ty) hi hs hx (A2q ht) hu (by simp[A1n,a,b]) hr;exact⟨r,w',G,k1,.refl _,k2,k3,k4⟩
   refine C7z hi hs hx (A2q ht) hu he (λc k' e1 news' m' e2=>?_) h;rw[h1]at e1;rw[h2]at e2;simp only[Z0b,Z0i]at e1 e2;rw[<-e1.2,<-e2.2];exact hb
  .simp at h
 .split at h
  .rename_i hc;simp only[Z0h,Z0n,C5H]at hc;exact C2J hi hs hx hc.1.1 hc.1.2 h ty ht hu he hc.2
  .simp at h
def B7B(P:Program)(t u:TypeId)(sz bytes:Nat)(e:TypeId):Prop:=A1b P t=some e/\A4j P u/\A4g P e sz bytes
def D4p(P:Program)(g:FuncId):Prop:=∀(args:Array Value) (w:World),(callFunc g args).run P w=.ok (.enter g args) w
def C3m(C:Ctx)(g:FuncId)(args:List AV)(M:Mem)(Q:AV->Mem->Prop):Prop:=∀G w (vs:List Value),Inv C G M w->A0v G args vs->∃x w' G' r M',(callFunc g vs.toArray).run C.P w=.ok (.value x) w'/\Q r M'/\G.le G'/\Inv C G' M' w'/\Rep G' r x/\Ext w w'
def C3m.mono{C}{g}{args}{M}{Q Q':AV->Mem->Prop}(h:C3m C g args M Q)(hq:∀r m,Q r m->Q' r m):C3m C g args M Q':=by intro G w vs hi hr;obtain⟨x,w',G',r,M',h1,h2,h3⟩:=h G w vs hi hr;exact⟨x,w',G',r,M',h1,hq _ _ h2,h3⟩
def A2Z(C:Ctx)(g:FuncId)(args:List AV)(M:Mem)(Q:AV->Mem->Prop):Prop:=(D4p C.P g/\A0c C g args M Q)\/C3m C g args M Q
def A2Z.mono{C}{g}{args}{M}{Q Q':AV->Mem->Prop}(h:A2Z C g args M Q)(hq:∀r m,Q r m->Q' r m):A2Z C g args M Q':=h.imp (λh=>⟨h.1,h.2.mono hq⟩) (λh=>h.mono hq)
def A9a(P:Program)(op:BinOp)(t:TypeId)(x y:AV):Bool:=
 match x,y with
 |.list _ [] _,.val (.slice none 0 0)=>(match op with|.eql|.neq=>true|_=>false)&&(match P.underlying t with|some (.slice _)=>true|_=>false)
 |_,_=>false
def A9S(C:Ctx)(o:Oper)(ρ:Operand->AV):Bool:=match o.op with
 |.binOp op t x y _=>A9a C.P op t (ρ x) (ρ y)
 |_=>false
def A4L(C:Ctx)(h:A2r)(o:Oper)(K:AV->Mem->Prop)(ρ:Operand->AV)(M:Mem):Prop:=
 match o.op with
 |.call {callee:=.value f,args,..}=>match ρ f with
  |.func (.func g) first captured=>A2Z C g (first++args.toList.map ρ++captured) M K
  |_=>False
 |.call {callee:=.builtin .append,args,argTypes}=>match args.toList,argTypes.toList with
  |[s,x],[t,u]=>∃e sz bytes,B7B C.P t u sz bytes e/\
   match A6L (A2e h.own o.dst) (A2e h.vec o.dst) e sz bytes (ρ s) (ρ x) M with
   |some (v,M')=>K v M'
   |none=>False
  |_,_=>False
 |_=>match A0W C h o ρ M with
  |some (v,M')=>K v M'
  |none=>A9S C o ρ=true/\∀b,K (.val (.bool b)) M
def B0d(C:Ctx)(G:A0q)(w:World)(o:Oper)(a:Act)(K:AV->Mem->Prop):Prop:=∀(next:Act->World->Prop) (Q:Exit->Act->World->Prop),(∀v M' G' w' x,K v M'->G.le G'->Inv C G' M' w'->Rep G' v x->Ext w w'->next (a.put o.dst x) w')->o.wp C.P a w next Q
def A5Y{C}{G}{M}{w}(hi:Inv C G M w){h}{o}{ρ:Operand->AV}{a}(hρ:∀x∈o.op.operands.toList,Rep G (ρ x) (a.eval x)){K:AV->Mem->Prop}(hv:A4L C h o K ρ M):B0d C G w o a K:=by
 intro next Q hK
 have l:∀v M',A0W C h o ρ M=some (v,M')->K v M'->o.wp C.P a w next Q:=by
  intro v M' he hk;obtain⟨nx,w',G',h1,h2,h3,h4,h5⟩:=C2p hi hρ he;unfold Oper.wp;rw[h1];rcases h2 with⟨x,rfl,hr⟩|⟨rfl,rfl⟩
  .exact hK v M' G' w' x hk h3 h4 hr h5
  .exact hK _ M' G' w' undef hk h3 h4 ZAE h5
 obtain⟨dst,op,type,pos,after,guard⟩:=o;unfold A4L at hv;simp only at hv;split at hv
 .rename_i f args ts;split at hv;case h_2=>exact hv.elim
  rename_i g first captured hf
  have m:=hρ f ZCG;rw[hf]at m;simp only[Rep]at m;obtain⟨fs,cs,p,a3,a0⟩:=m;have j:A0v G (args.toList.map ρ) (args.toList.map a.eval):=A8x args.toList (λx hx=>hρ x (by simp[Op.operands,Call.operands];simp at hx;simp[hx]));have i:=(a3.append j).append a0;have e:(fs.toList++args.toList.map a.eval++cs.toList).toArray=fs++args.map a.eval++cs:=by apply Z1O;simp
  rcases hv with⟨a2,hc⟩|hc;case inr=>obtain⟨x,w',G',r,M',q1,q2,q3,q4,q5,q6⟩:=hc G w _ hi i;rw[e]at q1;unfold Oper.wp;(have c:(execOp a.eval {dst:=dst,op:=.call {callee:=.value f,args:=args,argTypes:=ts},type:=type,pos:=pos,after:=after,guard:=guard}).run C.P w=.ok (.value x) w':=by simp only[execOp,resolve,p,Deferred.ofValue,Z0E,Z0O,Z0u,invoke];exact q1);rw[c];exact hK r M' G' w' x q2 q3 q4 q5 q6
  have k:=hc G w _ hi i;unfold Oper.wp;have c:(execOp a.eval {dst:=dst,op:=.call {callee:=.value f,args:=args,argTypes:=ts},type:=type,pos:=pos,after:=after,guard:=guard}).run C.P w=.ok (.enter g (fs++args.map a.eval++cs)) w:=by simp only[execOp,resolve,p,Deferred.ofValue,Z0E,Z0O,Z0u,invoke];exact a2 _ w
  rw[c];rw[e]at k;simp only[Oper.upon_enter];refine k.mono ?_;rintro e' w' ⟨r,M',G',v,rfl,k1,k2,k3,k4,k5⟩;exact hK r M' G' w' v k1 k2 k3 k4 k5
 .rename_i args ts;split at hv;case h_2=>exact hv.elim
  rename_i s x t u ha ht;obtain⟨e,sz,bytes,⟨he,hu,a1⟩,hm⟩:=hv;split at hm;case h_2=>exact hm.elim
  rename_i v M' hap;have j:args=#[s,x]:=by apply Z1O;simpa using ha
  have a4:ts=#[t,u]:=by apply Z1O;simpa using ht
  subst j;subst a4;have h1:=hρ s ZCG;have h2:=hρ x ZCG;obtain⟨rv,w',G',k1,k2,k3,k4,k5⟩:=C2C (ty:=type) hi h1 h2 he hu a1 hap;unfold Oper.wp;have c:(execOp a.eval {dst:=dst,op:=.call {callee:=.builtin .append,args:=#[s,x],argTypes:=#[t,u]},type:=type,pos:=pos,after:=after,guard:=guard}).run C.P w=.ok (.value rv) w':=by simp only[execOp,resolve,Z0E,Z0O,Z0u,invoke,builtin,Z4r,Z0x,Z1N,k1]
  rw[c];exact hK v M' G' w' rv hm k2 k3 k4 k5
 .split at hv
  .rename_i v M' he;exact l v M' he hv
  .obtain⟨hn,i⟩:=hv;unfold A9S at hn;split at hn;(case h_2=>simp at hn);rename_i bop t x y yt hop;simp only at hop;subst hop;unfold A9a at hn;split at hn;(case h_2=>simp at hn);rename_i sz own hx hy;simp only[Z0h]at hn;obtain⟨n,z⟩:=hn;have h1:=hρ x ZAA;have h2:=hρ y ZAA;rw[hx]at h1;rw[hy]at h2;simp only[Rep]at h1 h2;obtain⟨base,cap,q,_,_,_,_⟩:=h1;split at z;(case h_2=>simp at z);rename_i e hu;have hr:=A3E (P:=C.P) (t:=t) (xv:=a.eval x) (yv:=a.eval y) (ox:=x) (oy:=y) (b:=base.isNone) (w:=w) (λd=>by rw[q,h2];exact A5A hu d _ _ _ w) (.inr (.inl ⟨_,_,_,q⟩)) (.inr (.inl ⟨_,_,_,h2⟩));unfold Oper.wp;split at n
   .have:=A3L hr.1;simp only[execOp];rw[this];exact hK _ M G w _ (i base.isNone) (.refl _) hi ZAE (.refl _)
   .have:=A3L hr.2;simp only[execOp];rw[this];exact hK _ M G w _ (i (!base.isNone)) (.refl _) hi ZAE (.refl _)
   .simp at n
def Oper.inside(N:Nat)(o:Oper):Bool:=o.op.operands.toList.all (Operand.inside N)
def A2A(ops:Array Oper)(o:Oper)(T:Env)(run skip:Prop):Prop:=
 match o.guard with
 |none=>run
 |some (j,want)=>match(ops[j]?).bind (·.dst)with
  |some d=>match T d with
   |.val (.bool b)=>if b=want then run else skip
   |.val (.tuple _)=>skip
   |_=>False
  |none=>False
def B5P(C:Ctx)(h:A2r)(ops:Array Oper):List Oper->(Env->Mem->Prop)->Env->Mem->Prop
 |[],K,T,M=>K T M
 |o::rest,K,T,M=>A2A ops o T (A4L C h o (λv M'=>B5P C h ops rest K (T.put o.dst v) M') (T.ev C) M) (B5P C h ops rest K (T.put o.dst (.val undef)) M)
def B1S(N:Nat)(ops:Array Oper)(o:Oper):Bool:=match o.guard with
 |none=>true
 |some (j,_)=>match(ops[j]?).bind (·.dst)with
  |some d=>decide (d<N)
  |none=>true
def A2F(N:Nat)(ops:Array Oper)(l:List Oper):Bool:=l.all λo=>Oper.inside N o&&B1S N ops o
def A8R{C}{G}{M}{w}{N}{T}{a}(hi:Inv C G M w)(he:A3e G N T a){o}(h:Oper.inside N o=true):∀x∈o.op.operands.toList,Rep G (T.ev C x) (a.eval x):=λx hx=>D2H hi he x (Z0D.1 h x hx)
def B1v{C:Ctx}{G:A0q}{M:Mem}{w:World}{N:Nat}{T:Env}{a:Act}(he:A3e G N T a){ops:Array Oper}{o:Oper}(hg:B1S N ops o=true){run skip:Prop}(h:A2A ops o T run skip):(Region.wanted o (yielded ops a.tmps)=true/\run)\/(Region.wanted o (yielded ops a.tmps)=false/\skip):=by
 unfold A2A at h
 unfold B1S at hg
 unfold Region.wanted
 split at h
 .rename_i hn;rw[hn];exact .inl ⟨rfl,h⟩
 .rename_i j want hs;rw[hs]at hg|-;simp only at hg;split at h;case h_2=>exact h.elim
  rename_i d hd;rw[hd]at hg;simp only[Z0n]at hg;have hr:=he.at_ d hg;have f:=he.size;have hlt:d<a.tmps.size:=f▸hg;obtain⟨x,hx,c⟩:∃x,a.tmps[d]?=some x/\Rep G (T d) x:=⟨a.tmps[d],Z1g hlt,by simpa[Array.getD,hlt]using hr⟩;have hy:yielded ops a.tmps j=match(generalizing:=false) x with|.bool b=>some b|_=>none:=by unfold yielded;simp only[hd,Z2g,hx];cases x<;>rfl
  split at h
  .rename_i b hb;rw[hb]at c;simp only[Rep]at c;subst c;simp only[hy];by_cases e:b=want
   .rw[Z0c e]at h;exact .inl ⟨by simp[e],h⟩
   .rw[Z0d e]at h;exact .inr ⟨by simp[e],h⟩
  .rename_i vs hb;rw[hb]at c;simp only[Rep]at c;subst c;simp only[hy];exact .inr ⟨Q1,h⟩
  .exact h.elim
def B1N{C:Ctx}{N:Nat}{h:A2r}{ops:Array Oper}{Q:Exit->Env->Mem->Prop}:∀(l:List Oper) (G0:A0q) (w0:World) (G:A0q) (T:Env) (M:Mem) (w:World) (a:Act),
 A2F N ops l=true->B5P C h ops l (λT M=>Q .normal T M) T M->G0.le G->Ext w0 w->Inv C G M w->A3e G N T a->wpList C.P ops (B4Z C N Q G0 w0) l a w
 |[],G0,w0,G,T,M,w,a,_,hv,hle,hext,hi,he=>⟨T,M,G,hv,hle,hi,he,hext⟩
 |o::rest,G0,w0,G,T,M,w,a,hin,hv,hle,hext,hi,he=>by
  simp only[A2F,Z2Q,Z0h]at hin;obtain⟨⟨ho,hg⟩,c⟩:=hin;have b:A2F N ops rest=true:=by simpa[A2F]using c
  simp only[B5P]at hv;simp only[wpList];rcases B1v (C:=C) (M:=M) (w:=w) he hg hv with⟨hw,hr⟩|⟨hw,hs⟩
  .rw[Z0c hw];left;refine A5Y hi (A8R hi he ho) hr _ _ ?_;intro v M' G' w' x hk h1 h2 h3 h4;exact B1N rest G0 w0 G' _ M' w' _ b hk (hle.trans h1) (hext.trans h4) h2 ((he.mono h1).put h3)
  .rw[Z0d (by simp[hw])];exact B1N rest G0 w0 G _ M w _ b hs hle hext hi (he.put ZAE)
def C7X{C}{N}{h}{id}{ops}{Q:Exit->Env->Mem->Prop}{T}{M}(b:A2F N ops ops.toList=true)(hv:B5P C h ops ops.toList (λT M=>Q .normal T M) T M):
 AWp C N (.region id ops false) Q T M:=
 λG w a hi he=>wp_region_list (B1N ops.toList G w G T M w a b hv (.refl _) (.refl _) hi he)
def C9g(C:Ctx)(T:Env)(M:Mem):ResultVar->Option AV
 |.tmp t=>some (T t)
 |.cell a ty=>(A2g M (T a)).bind (A0p C.P ty)
def A8X(C:Ctx)(T:Env)(M:Mem):List ResultVar->Option (List AV)
 |[]=>some []
 |r::rs=>match C9g C T M r,A8X C T M rs with
  |some v,some vs=>some (v::vs)
  |_,_=>none
def A6z(C:Ctx)(rs:List ResultVar)(T:Env)(M:Mem):Option AV:=
 match A8X C T M rs with
 |some [v]=>some v
 |some vs=>some (.tuple vs)
 |none=>none
def A6f(N:Nat):List ResultVar->Bool
 |[]=>true
 |.tmp t::rs=>decide (t<N)&&A6f N rs
 |.cell a _::rs=>decide (a<N)&&A6f N rs
def B5Y(C:Ctx)(rs:List ResultVar)(Q:AV->Mem->Prop):Exit->Env->Mem->Prop
 |.normal,T,M|.ret,T,M=>match A6z C rs T M with
  |some r=>Q r M
  |none=>False
 |_,_,_=>False
def B9S(tmps:Array Value):ResultVar->Sem Value
 |.tmp t=>pure (tmps.getD t undef)
 |.cell b t=>do loadVar t (<-asAddr (tmps.getD b undef))
def B9Q(fn:Func)(tmps:Array Value):results fn tmps=(do
 let vs <-fn.results.mapM (B9S tmps)
 pure (if h:vs.size=1 then vs[0]else .tuple vs)):=by
 unfold results
 congr 1
def A9e{C}{G}{M}{w}{N}{T}{a}(hi:Inv C G M w)(he:A3e G N T a):∀(rs:List ResultVar) (vs:List AV),A6f N rs=true->A8X C T M rs=some vs->
 ∃xs,(rs.mapM (B9S a.tmps)).run C.P w=.ok xs w/\A0v G vs xs
 |[],vs,_,h=>by simp[A8X]at h;subst h;exact⟨[],Q1,ZCT⟩
 |r::rs,vs,hin,h=>by
  simp only[A8X]at h;split at h;case h_2=>simp at h
  rename_i v vs' h1 h2;simp only[Z0b]at h;subst h;cases r with
  |tmp t=>simp only[A6f,Z0h,Z0n]at hin;obtain⟨xs,q1,q2⟩:=A9e hi he rs vs' hin.2 h2;simp only[C9g,Z0b]at h1;subst h1;refine⟨a.tmps.getD t undef::xs,?_,by simp only[A0v];exact⟨_,_,rfl,he.at_ t hin.1,q2⟩⟩;simp only[Z3u,B9S,Z0E,Z0O,Z0u,q1]
  |cell b ty=>simp only[A6f,Z0h,Z0n]at hin;obtain⟨xs,q1,q2⟩:=A9e hi he rs vs' hin.2 h2;simp only[C9g,Z2j]at h1;obtain⟨cs,c,hl⟩:=h1;have hr:=he.at_ b hin.1;obtain⟨u,hu,d⟩:=B3l hi hr c hl;obtain⟨bb,ii,_,hp,_⟩:=C0q hi hr c;refine⟨u::xs,?_,by simp only[A0v];exact⟨_,_,rfl,d,q2⟩⟩;rw[hp]at hu;simp only[Instr.loadAt,Instr.sureAddr,Z0E,Z0O,Z0u]at hu;simp only[Z3u,B9S,Z0E,Z0O,Z0u,hp,asAddr,hu,q1]
def B9j{C}{f}{fn}{c}{args}{M}{Q:AV->Mem->Prop}{N}{rs}(hf:C.P.funcs[f]?=some fn)(hb:fn.body=some c)(hN:fn.ntmps=N)(d:fn.results=rs.toArray) (hn:decide (args.length<=N)=true)(g:A6f N rs=true)(h:AWp C N c (B5Y C rs Q) (Env.of args) M):A0c C f args M Q:=by
 intro G w vs hi hr
 have j:=hr.length
 simp only[Z0n]at hn
 refine calls_of_wp hf hb ?_
 have he:=A3e.of (G:=G) (N-vs.length) hr
 rw[show vs.length+(N-vs.length)=N from by omega]at he
 have hw:=h G w _ hi he
 rw[hN]
 refine Z4E (by simpa using hw) ?_
 rintro e a' w' ⟨T',M',G',h1,h2,h3,h4,h5⟩
 have key:B5Y C rs Q .ret T' M'->a'.defers=[]/\∃v,(results fn a'.tmps).run C.P w'=.ok v w'/\∃r M' G' v',Ending.returned v=.returned v'/\Q r M'/\G.le G'/\Inv C G' M' w'/\Rep G' r v'/\Ext w w':=by
  intro hq;refine⟨h4.defers,?_⟩;simp only[B5Y]at hq;split at hq;case h_2=>exact hq.elim
  rename_i r hres;unfold A6z at hres;have a:∀vs',A8X C T' M' rs=some vs'->∃xs,(fn.results.mapM (B9S a'.tmps)).run C.P w'=.ok xs.toArray w'/\A0v G' vs' xs:=by intro vs' i;obtain⟨xs,q1,q2⟩:=A9e h3 h4 rs vs' g i;refine⟨xs,?_,q2⟩;rw[d];simp only[Z4o,Sem.run_map,q1,Z0u]
  cases hrl:A8X C T' M' rs with
  |none=>rw[hrl]at hres;simp at hres
  |some vs'=>
   rw[hrl]at hres;obtain⟨xs,q1,q2⟩:=a vs' hrl;have hl:=q2.length;by_cases h1':vs'.length=1
   .match vs',h1' with
    |[v],_=>simp only[Z0b]at hres;subst hres;simp only[A0v]at q2;obtain⟨x,_,rfl,hx,rfl⟩:=q2;exact⟨x,by simp only[B9Q,Z0E,q1,Z0u,Z0O];simp,v,M',G',x,rfl,hq,h2,h3,hx,h5⟩
   .have b:r=.tuple vs':=by
     split at hres
     .rename_i v hv;cases hv;simp at h1'
     .rename_i vs'' _ hv;simp only[Z0b]at hv hres;subst hv;exact hres.symm
     .rename_i hv;simp at hv
    subst b;refine⟨.tuple xs.toArray,by simp only[B9Q,Z0E,q1,Z0u,Z0O];simp[hl,h1'],_,M',G',_,rfl,hq,h2,h3,by simp only[Rep];exact⟨_,rfl,by simpa using q2⟩,h5⟩
 cases e with
 |normal=>exact key h1
 |ret=>exact key h1
 |exit id=>exact h1.elim
 |goto l=>exact h1.elim
 |panic ch=>exact h1.elim
 |outgrown=>exact h1.elim
def B8c(C:Ctx)(h:A2r)(N:Nat):Code->(Exit->Env->Mem->Prop)->Env->Mem->Prop
 |.skip,Q,T,M=>Q .normal T M
 |.label _,Q,T,M=>Q .normal T M
 |.region id ops draw,Q,T,M=>if draw=true then AWp C N (.region id ops true) Q T M else B5P C h ops ops.toList (λT M=>Q .normal T M) T M
 |.seq x y,Q,T,M=>B8c C h N x (C4r (B8c C h N y Q) Q) T M
 |.cond c x y,Q,T,M=>match T.ev C c with
  |.val (.bool b)=>if b=true then B8c C h N x Q T M else B8c C h N y Q T M
  |_=>False
 |.block id c,Q,T,M=>B8c C h N c (A9y id Q) T M
 |.exit id,Q,T,M=>Q (.exit id) T M
 |.ret,Q,T,M=>Q .ret T M
 |c,Q,T,M=>AWp C N c Q T M
def A2V(N:Nat):Code->Bool
 |.region _ ops draw=>draw||A2F N ops ops.toList
 |.seq x y=>A2V N x&&A2V N y
 |.cond c x y=>Operand.inside N c&&A2V N x&&A2V N y
 |.block _ c=>A2V N c
 |_=>true
def B5w:Op->Bool
 |.call _=>true
 |_=>false
def A0T{α:Type}(o:Option α)(f:α->Prop):Prop:=match o with
 |some v=>f v
 |none=>False
@[simp] def C3u{α:Type}(v:α)(f:α->Prop):A0T (some v) f=f v:=(rfl)
@[simp] def D8f{α:Type}(f:α->Prop):A0T none f=False:=(rfl)
section
variable {C:Ctx} {h:A2r} {N:Nat} {Q:Exit->Env->Mem->Prop} {T:Env} {M:Mem} {K:AV->Mem->Prop} {ρ:Operand->AV}
def D2d{rs}{Q:AV->Mem->Prop}:B5Y C rs Q .ret T M=A0T (A6z C rs T M) (λr=>Q r M):=by simp only[B5Y,A0T];cases A6z C rs T M<;>rfl
def C2T{rs}{Q:AV->Mem->Prop}:B5Y C rs Q .normal T M=A0T (A6z C rs T M) (λr=>Q r M):=by simp only[B5Y,A0T];cases A6z C rs T M<;>rfl
@[simp] def E6H{t:Nat}:T.ev C (.tmp t)=T t:=(rfl)
@[simp] def E1W{v}:T.ev C (.const v)=.val v:=(rfl)
@[simp] def E0d{g}:T.ev C (.global g)=C.gl g:=(rfl)
@[simp] def E4l{f:Nat}:T.ev C (.func f)=.func (.func f) [] []:=(rfl)
@[simp] def E6o{d j}{v}:T.put (some d) v j=if j=d then v else T j:=(rfl)
def A3H{ops:Array Oper}{d:Option Tmp}{op:Op}{t:TypeId}{p:String}{af:Array Edge}{run skip:Prop}:A2A ops ⟨d,op,t,p,af,none⟩ T run skip=run:=rfl
variable {d:Option Tmp} {t:TypeId} {p:String} {af:Array Edge} {g:Option (Nat×Bool)}
def A3Q{op}(a:B5w op=false)(hn:A9S C ⟨d,op,t,p,af,g⟩ ρ=false):A4L C h ⟨d,op,t,p,af,g⟩ K ρ M=A0T (A0W C h ⟨d,op,t,p,af,g⟩ ρ M) (λx=>K x.1 x.2):=by
 have e:A4L C h ⟨d,op,t,p,af,g⟩ K ρ M=(match A0W C h ⟨d,op,t,p,af,g⟩ ρ M with|some (v,M')=>K v M'|none=>A9S C ⟨d,op,t,p,af,g⟩ ρ=true/\∀b,K (.val (.bool b)) M):=by cases op<;>first|exact Bool.noConfusion a|rfl
 rw[e,hn];cases A0W C h ⟨d,op,t,p,af,g⟩ ρ M with
 |none=>simp
 |some x=>rfl
def C9C(C:Ctx)(o:Oper)(ρ:Operand->AV)(M:Mem):Option (AV×Mem):=match A1c C o ρ with
 |some v=>some (v,M)
 |none=>A7I C o ρ M
def B0G{o}(b:A1X C h o ρ M=none)(a:C9C C o ρ M=none):A0W C h o ρ M=match A0J C h o ρ with
 |some v=>some (v,M)
 |none=>A1V C h o ρ M:=by
 unfold A0W
 rw[b]
 change(match A0J C h o ρ with|some v=>some (v,M)|none=>match A1V C h o ρ M with|some r=>some r|none=>C9C C o ρ M)=_
 rw[a]
 cases A0J C h o ρ with
 |some v=>rfl
 |none=>cases A1V C h o ρ M<;>rfl
def B4g(P:Program)(op:BinOp)(t:TypeId)(x y:AV)(f:AV->Prop):Prop:=match A1K P op t x y with
 |some v=>f v
 |none=>A9a P op t x y=true/\∀b,f (.val (.bool b))
def C9v(C:Ctx)(o:Oper)(ρ:Operand->AV)(op:BinOp)(t:TypeId)(x y:AV)(f:AV->Prop):Prop:=match(A1K C.P op t x y).or (A1c C o ρ)with
 |some v=>f v
 |none=>A9a C.P op t x y=true/\∀b,f (.val (.bool b))
def A6c{P}{op}{t:TypeId}{x y}{f:AV->Prop}(h:A9a P op t x y=false):B4g P op t x y f=A0T (A1K P op t x y) f:=by unfold B4g A0T;rw[h];cases A1K P op t x y<;>simp
def B7e(c a b:AV):Option AV:=match c with
 |.val (.bool t)=>some (if t then a else b)
 |_=>none
@[simp] def D8c{t}{a b}:B7e (.val (.bool t)) a b=some (if t=true then a else b):=(rfl)
def B6C:AV->Option AV
 |.ptr b off=>some (.ptr b off)
 |.cptr cs=>some (.cptr cs)
 |.func (.func f) a c=>some (.func (.func f) a c)
 |.vptr f g off=>some (.vptr f g off)
 |_=>none
@[simp] def D8W{f g o}:B6C (.vptr f g o)=some (.vptr f g o):=(rfl)
@[simp] def E0c{b o}:B6C (.ptr b o)=some (.ptr b o):=(rfl)
@[simp] def D9J{cs}:B6C (.cptr cs)=some (.cptr cs):=(rfl)
@[simp] def D9A{f}{a c}:B6C (.func (.func f) a c)=some (.func (.func f) a c):=(rfl)
def C5M:AV->Option AV
 |.val (.bool b)=>some (.val (.bool !b))
 |_=>none
@[simp] def D9x{b}:C5M (.val (.bool b))=some (.val (.bool !b)):=(rfl)
def B0y(k:Option Nat)(x:AV):Option AV:=match k,x with
 |some k,.ptr b off=>some (.ptr b (off+k))
 |some k,.cptr cs=>some (.cptr (cs.drop k))
 |some k,.vptr f g off=>some (.vptr f g (off+k))
 |_,_=>none
@[simp] def D7f{k f g o}:B0y (some k) (.vptr f g o)=some (.vptr f g (o+k)):=(rfl)
@[simp] def D8m{k b o}:B0y (some k) (.ptr b o)=some (.ptr b (o+k)):=(rfl)
@[simp] def D6f{k}{cs}:B0y (some k) (.cptr cs)=some (.cptr (cs.drop k)):=(rfl)
def A9M(x:AV)(i:Nat):Option AV:=match x with
 |.tuple vs=>vs[i]?
 |_=>none
@[simp] def D2f{vs}{i}:A9M (.tuple vs) i=vs[i]?:=(rfl)
def A6j(e:Option (Option Nat))(x i:AV):Option AV:=match e,x,i with
 |some s,.list sz rows _,.val (.int _ i)=>if s=some sz/\0<=i/\i<rows.length then some (.cptr (rows.getD i.toNat []))else none
 |some s,.vref f g sz lo len,.val (.int _ i)=>if s=some sz/\0<=i/\i<len then some (.vptr f g ((lo+i.toNat)*sz))else none
 |_,_,_=>none
@[simp] def D9e{s sz f g lo len}{k}{i}:A6j (some (some s)) (.vref f g sz lo len) (.val (.int k i))=if s=sz/\0<=i/\i<len then some (.vptr f g ((lo+i.toNat)*sz))else none:=by simp[A6j]
@[simp] def D9L{s sz}{rows}{own}{k}{i}:A6j (some (some s)) (.list sz rows own) (.val (.int k i))=if s=sz/\0<=i/\i<rows.length then some (.cptr (rows.getD i.toNat []))else none:=by simp[A6j]
def A0E(P:Program)(t:TypeId)(M:Mem)(x:AV):Option AV:=(A2g M x).bind (A0p P t)
@[simp] def D7V{P}{t:TypeId}{M}{cs}:A0E P t M (.cptr cs)=A0p P t cs:=(rfl)
def A0b{P}{t:TypeId}{M}{b o}{bt:TypeId}{cs}(hb:M[b]?=some (.cells bt cs)):A0E P t M (.ptr b o)=if o<=cs.length then A0p P t (cs.drop o)else none:=by simp only[A0E,A2g,hb];split<;>rfl
def A7o(agg:Option Bool)(n:Option Nat)(cs:List AV):Option AV:=match agg,n with
 |some true,some n=>if n<=cs.length then some (.agg (cs.take n))else none
 |some false,some _=>cs.head?
 |_,_=>none
def A0h{P}{t:TypeId}{cs}:A0p P t cs=A7o (A2z P t) (A1n P t) cs:=by
 unfold A0p A7o;cases A2z P t with
 |none=>rfl
 |some b=>cases b<;>cases A1n P t<;>first|rfl|(cases cs<;>rfl)
@[simp] def D7X{n}{c}{cs}:A7o (some false) (some n) (c::cs)=some c:=(rfl)
@[simp] def D7Z{n}{cs}:A7o (some true) (some n) cs=if n<=cs.length then some (.agg (cs.take n))else none:=(rfl)
def A0k(s:Option Nat)(M:Mem)(a v:AV):Option Mem:=match a with
 |.ptr b off=>match M[b]? with
  |some (.cells bt cs)=>if v.storable&&decide (off+v.cells.length<=cs.length)&&decide (s=some v.cells.length)then some (M.set b (.cells bt (A0e cs off v.cells)))else none
  |_=>none
 |.vptr f g off=>match M[f]? with
  |some (.vec vt sz cs g' hist)=>match hist.lookup g with
   |some n=>if v.storable&&decide (off+v.cells.length<=n*sz)&&decide (s=some v.cells.length)then some (M.set f (.vec vt sz (A0e cs off v.cells) g' (A0Q sz g off hist)))else none
   |none=>none
  |_=>none
 |_=>none
def A0f{n}{M}{b off}{v}{bt:TypeId}{cs}(hb:M[b]?=some (.cells bt cs)):A0k (some n) M (.ptr b off) v=if v.storable=true/\off+v.cells.length<=cs.length/\n=v.cells.length then some (M.set b (.cells bt (A0e cs off v.cells)))else none:=by simp only[A0k,hb,Z0h,Z0n,Z0b,and_assoc]
def C7F{op}{xt yt:TypeId}{x y}:A4L C h ⟨d,.binOp op xt x y yt,t,p,af,g⟩ K ρ M=C9v C ⟨d,.binOp op xt x y yt,t,p,af,g⟩ ρ op xt (ρ x) (ρ y) (λv=>K v M):=by
 have e:A4L C h ⟨d,.binOp op xt x y yt,t,p,af,g⟩ K ρ M=(match A0W C h ⟨d,.binOp op xt x y yt,t,p,af,g⟩ ρ M with|some (v,M')=>K v M'|none=>A9a C.P op xt (ρ x) (ρ y)=true/\∀b,K (.val (.bool b)) M):=rfl;rw[e];have e2:A0W C h ⟨d,.binOp op xt x y yt,t,p,af,g⟩ ρ M=((A1K C.P op xt (ρ x) (ρ y)).or (A1c C ⟨d,.binOp op xt x y yt,t,p,af,g⟩ ρ)).map λv=>(v,M):=by
  unfold A0W;change(match A1K C.P op xt (ρ x) (ρ y)with|some v=>some (v,M)|none=>match A1c C ⟨d,.binOp op xt x y yt,t,p,af,g⟩ ρ with|some v=>some (v,M)|none=>none)=_;cases A1K C.P op xt (ρ x) (ρ y)with
  |some v=>rfl
  |none=>cases A1c C ⟨d,.binOp op xt x y yt,t,p,af,g⟩ ρ<;>rfl
 rw[e2];unfold C9v;cases(A1K C.P op xt (ρ x) (ρ y)).or (A1c C ⟨d,.binOp op xt x y yt,t,p,af,g⟩ ρ)<;>rfl
def C0L{lt:TypeId}{x}:A4L C h ⟨d,.load lt x,t,p,af,g⟩ K ρ M=A0T (A0E C.P lt M (ρ x)) (λv=>K v M):=by
 rw[A3Q rfl rfl,B0G rfl rfl];simp only[A0J,A1V,A0E];cases hx:ρ x with
 |cptr cs=>simp only[A2g,Z2g];cases A0p C.P lt cs<;>rfl
 |ptr b o=>simp only[];cases(A2g M (AV.ptr b o)).bind (A0p C.P lt)<;>rfl
 |vptr f g o=>simp only[];cases(A2g M (AV.vptr f g o)).bind (A0p C.P lt)<;>rfl
 |_=>rfl
def C8b{lt:TypeId}{x y}:A4L C h ⟨d,.store lt x y,t,p,af,g⟩ K ρ M=A0T (A0k (A1n C.P lt) M (ρ x) (ρ y)) (λM'=>K (.val undef) M'):=by
 rw[A3Q rfl rfl,B0G rfl rfl];simp only[A0J,A1V,A0k];cases hx:ρ x with
 |ptr b o=>
  simp only[];cases hb:M[b]? with
  |none=>rfl
  |some ob=>
   cases ob with
   |cells bt cs=>simp only[];split<;>rfl
   |_=>rfl
 |vptr f g o=>
  simp only[];cases hb:M[f]? with
  |none=>rfl
  |some ob=>
   cases ob with
   |vec vt sz cs g' hist=>
    simp only[];cases hist.lookup g with
    |none=>rfl
    |some n=>simp only[];split<;>rfl
   |_=>rfl
 |_=>rfl
def A0j(P:Program)(e:TypeId)(M:Mem):Option (AV×Mem):=match A0G P e with
 |some z=>if z.all (·.oneCell')then some (.ptr M.length 0,M++[.cells e (z.map .val)])else none
 |none=>none
def C7A{e:TypeId}:A4L C h ⟨d,.alloc e,t,p,af,g⟩ K ρ M=A0T (A0j C.P e M) (λx=>K x.1 x.2):=by rw[A3Q rfl rfl,B0G rfl rfl];rfl
def C0P(imm:Bool)(e:TypeId)(M:Mem)(x:AV):Option (AV×Mem):=if x.storable=true then(if imm=true then some (.cptr x.cells,M)else some (.ptr M.length 0,M++[.cells e x.cells]))else none
def D4O{e:TypeId}{x}:A4L C h ⟨d,.box e x,t,p,af,g⟩ K ρ M=A0T (C0P (A2e h.imm d) e M (ρ x)) (λx=>K x.1 x.2):=by rw[A3Q rfl rfl,B0G rfl rfl];simp only[A0J,A1V,C0P];cases(ρ x).storable<;>cases A2e h.imm d<;>rfl
def A0A(P:Program)(t:TypeId)(parts:List (Nat×AV)):Option AV:=match A0G P t,P.underlying t with
 |some z,some (.struct _)=>if !A3c P t||!z.all (·.oneCell')then none else(A1l P t parts (z.map .val)).map .agg
 |_,_=>none
def A0x(P:Program)(t:TypeId)(n:Nat)(parts:List (Nat×AV)):Option AV:=match A1b P t with
 |some e=>match A1n P e,A0G P e with
  |some sz,some z=>if n*sz<=2^24/\z.length=sz/\z.all (·.oneCell')/\0<sz then
   (A1g sz parts (List.replicate n (z.map .val))).map λrows=>.list sz rows .full
   else none
  |_,_=>none
 |none=>none
def B6M{bt:TypeId}{n:Nat}{ps:List (Nat×Operand)}:A4L C h ⟨d,.buildSlice bt n ps.toArray,t,p,af,g⟩ K ρ M=if B6E C h bt d=true then A0T (A1C C.P bt n (ps.map λx=>(x.1,ρ x.2)) M) (λr=>K r.1 r.2)else A0T (A0x C.P bt n (ps.map λx=>(x.1,ρ x.2))) (λv=>K v M):=by
 rw[A3Q rfl rfl];simp only[A0W,A0J,A1V,A1X];cases B6E C h bt d with
 |true=>simp only[Z1e];change A0T (match A1C C.P bt n (ps.map λx=>(x.1,ρ x.2)) M with|some r=>some r|none=>none) _=_;cases A1C C.P bt n (ps.map λx=>(x.1,ρ x.2)) M<;>rfl
 |false=>simp only[Z1I,Z2f,A0x];show A0T (match A0x C.P bt n (ps.map λx=>(x.1,ρ x.2))with|some v=>some (v,M)|none=>none) _=A0T (A0x C.P bt n (ps.map λx=>(x.1,ρ x.2))) _;cases A0x C.P bt n (ps.map λx=>(x.1,ρ x.2))<;>rfl
def C2V{mt:TypeId}:A4L C h ⟨d,.makeMap mt none,t,p,af,g⟩ K ρ M=K (.mapr M.length) (M++[.map [] 0]):=by rw[A3Q rfl rfl];rfl
def B6e{mt:TypeId}{m k}{ok}:A4L C h ⟨d,.lookup mt m k ok,t,p,af,g⟩ K ρ M=A0T (A1Y C.P mt M (ρ m) (ρ k) ok) (λv=>K v M):=by rw[A3Q rfl rfl];simp only[A0W,A0J,A1V,A1X];cases A1Y C.P mt M (ρ m) (ρ k) ok<;>rfl
def B7C{mt:TypeId}{m k x}:A4L C h ⟨d,.mapUpdate mt m k x,t,p,af,g⟩ K ρ M=A0T (A2b C.P mt M (ρ m) (ρ k) (ρ x)) (λM'=>K (.val undef) M'):=ZBC
def C3r{mt:TypeId}{m k x}:A4L C h ⟨d,.insert mt m k x,t,p,af,g⟩ K ρ M=A0T (A2b C.P mt M (ρ m) (ρ k) (ρ x)) (λM'=>K (.val undef) M'):=ZBC
def B9E{st:TypeId}{l c}:A4L C h ⟨d,.makeSlice st l c,t,p,af,g⟩ K ρ M=A0T (A5l C.P st (ρ l) (ρ c) M) (λr=>K r.1 r.2):=by rw[A3Q rfl rfl];change A0T (match A5l C.P st (ρ l) (ρ c) M with|some r=>some r|none=>none) _=_;cases A5l C.P st (ρ l) (ρ c) M<;>rfl
def D2E{x}{xt:TypeId}:A4L C h ⟨d,.call {callee:=.builtin .len,args:=#[x],argTypes:=#[xt]},t,p,af,g⟩ K ρ M=A0T ((A3k C.P xt (ρ x)).or (A4N C.P xt M (ρ x))) (λn=>K (.val (.int .i64 n)) M):=by
 simp only[A4L,A0W,A0J,A8C,Z0x,Z1N];cases hl:A3k C.P xt (ρ x)with
 |none=>cases hm:A4N C.P xt M (ρ x)<;>simp[hl,hm,A1V,A1X,A5g,A9S,goInt,A1c,A7I,B1j]
 |some n=>simp[hl,goInt]
def D2G(C:Ctx)(f:AV)(args:List AV)(M:Mem)(K:AV->Mem->Prop):Prop:=match f with
 |.func (.func g) first captured=>A2Z C g (first++args++captured) M K
 |_=>False
def B3E(C:Ctx)(own vec:Bool)(t u:TypeId)(s x:AV)(M:Mem)(K:AV->Mem->Prop):Prop:=∃e sz bytes,B7B C.P t u sz bytes e/\A0T (A6L own vec e sz bytes s x M) (λr=>K r.1 r.2)
def C5q{s x}{st xt:TypeId}:A4L C h ⟨d,.call {callee:=.builtin .append,args:=#[s,x],argTypes:=#[st,xt]},t,p,af,g⟩ K ρ M=B3E C (A2e h.own d) (A2e h.vec d) st xt (ρ s) (ρ x) M K:=by
 simp only[A4L,B3E];congr;funext e;congr;funext sz;congr;funext bytes;cases A6L (A2e h.own d) (A2e h.vec d) e sz bytes (ρ s) (ρ x) M with
 |none=>rfl
 |some r=>rfl
end
@[simp] def C8c{α:Type}{c:Prop}[Decidable c](v:α)(f:α->Prop):A0T (if c then some v else none) f=(c/\f v):=by
 by_cases h:c<;>simp[h,A0T]
@[simp] def A1S{α β:Type}(o:Option α)(g:α->β)(f:β->Prop):A0T (o.map g) f=A0T o (λx=>f (g x)):=by
 cases o<;>rfl
@[simp] def E0o{mx}{k}{a b}:A7J mx (.val (.int k a)) (.val (.int k b))=some (.val (.int k (if mx=true then(if b>a then b else a)else(if b<a then b else a)))):=by
 simp[A7J]
attribute [simp] Value.oneCell' AV.storable AV.one AV.cells A0e A0h A6z A8X C9g A2e A9o A7n B3f goInt C0P
@[simp] def E0A{P}{op}{t:TypeId}{k}{a b}:A1K P op t (.val (.int k a)) (.val (.int k b))=(A9Y op k a b).map .val:=by cases h:A9Y op k a b<;>simp[A1K,A3v,A4B,h]
@[simp] def E0F{P}{op}{t:TypeId}{a b}:A1K P op t (.val (.string a)) (.val (.string b))=(B9N op a b).map .val:=by cases h:B9N op a b<;>simp[A1K,A3v,A4B,h]
@[simp] def D5A{P}{t:TypeId}{a b}(h:P.underlying t=some .bool):A1K P .eql t (.val (.bool a)) (.val (.bool b))=some (.val (.bool (a==b))):=by simp[A1K,A3v,h]
@[simp] def D4e{P}{t:TypeId}{a b}(h:P.underlying t=some .bool):A1K P .neq t (.val (.bool a)) (.val (.bool b))=some (.val (.bool !(a==b))):=by simp[A1K,A3v,h]
@[simp] def D5E{P}{t e:TypeId}{b o}(h:P.underlying t=some (.pointer e)):A1K P .eql t (.ptr b o) (.val (.pointer none))=some (.val (.bool false)):=ZBW
attribute [simp] A9Y
def D6O(a:ByteArray):∀(k i:Nat) (r:List UInt8),a.size-i=k->ByteArray.toList.loop a i r=r.reverse++a.data.toList.drop i:=by
 intro k;induction k with
 |zero=>intro i r h;rw[ByteArray.toList.loop];have:¬i<a.size:=Q0;rw[Z0d this];rw[Z1u (by simp;show a.size<=i;omega)];simp
 |succ k ih=>
  intro i r h;rw[ByteArray.toList.loop];have hi:i<a.size:=Q0;rw[Z0c hi,ih (i+1) _ Q0];have b:i<a.data.toList.length:=ZAS
  rw[Z0m b];have:a.get! i=a.data.toList[i]:=by show a.data[i]! =_;rw[Z3U a.data i hi];simp
  rw[this];simp
def C0p(a:ByteArray):a.toList=a.data.toList:=by unfold ByteArray.toList;rw[D6O a (a.size-0) 0 [] rfl];simp
def D5d{a b:ByteArray}(h:a.data.toList=b.data.toList):a=b:=by obtain⟨⟨a⟩⟩:=a;obtain⟨⟨b⟩⟩:=b;simp at h;rw[h]
def D3L(a b:ByteArray):(a.toList==b.toList)=decide (a=b):=by rw[C0p,C0p,Z2k];simp only[Z3t,Z0n];exact⟨D5d,λh=>by rw[h]⟩
@[simp] def E1C(a b:ByteArray):B9N .eql a b=some (.bool (decide (a=b))):=by show some _=some _;rw[D3L]
@[simp] def E2b(a b:ByteArray):B9N .neq a b=some (.bool (!decide (a=b))):=by show some _=some _;rw[D3L]
@[simp] def E2P(a b:ByteArray):B9N .add a b=if((a.size+b.size:Nat):Int)>IntKind.i64.max then none else some (.string (a++b)):=(rfl)
def D2T{P}{op}{t:TypeId}{k}{a b}{f:AV->Prop}:B4g P op t (.val (.int k a)) (.val (.int k b)) f=A0T ((A9Y op k a b).map .val) f:=by rw[A6c rfl];simp
def D2C{P}{op}{t:TypeId}{a b}{f:AV->Prop}:B4g P op t (.val (.string a)) (.val (.string b)) f=A0T ((B9N op a b).map .val) f:=by rw[A6c rfl];simp
def D0b{P}{op}{t:TypeId}{a b}{f:AV->Prop}:B4g P op t (.val (.bool a)) (.val (.bool b)) f=A0T (A1K P op t (.val (.bool a)) (.val (.bool b))) f:=by rw[A6c rfl]
def D4u{P}{op}{t:TypeId}{b o}{y}{f:AV->Prop}:B4g P op t (.ptr b o) y f=A0T (A1K P op t (.ptr b o) y) f:=by rw[A6c rfl]
def D2A{P}{op}{t:TypeId}{v}{y}{f:AV->Prop}:B4g P op t (.val v) y f=A0T (A1K P op t (.val v) y) f:=by rw[A6c rfl]
def D2a{P}{op}{t:TypeId}{sz}{r}{rows}{own}{y}{f:AV->Prop}:B4g P op t (.list sz (r::rows) own) y f=A0T (A1K P op t (.list sz (r::rows) own) y) f:=by rw[A6c rfl]
def C0a{P}{op}{t e:TypeId}{sz}{own}{f:AV->Prop}(a:op=.eql\/op=.neq)(ht:P.underlying t=some (.slice e)):B4g P op t (.list sz [] own) (.val (.slice none 0 0)) f=∀b,f (.val (.bool b)):=by
 have h1:A1K P op t (.list sz [] own) (.val (.slice none 0 0))=none:=by rcases a with rfl|rfl<;>simp[A1K,A3v,A4B,A3Z,ht,A3b,B4w]
 have h2:A9a P op t (.list sz [] own) (.val (.slice none 0 0))=true:=by rcases a with rfl|rfl<;>simp[A9a,ht]
 unfold B4g;rw[h1,h2];simp
@[simp] def D5H{P:Program}{t e:TypeId}(h:P.underlying t=some (.slice e)):A1K P .eql t (.val (.slice none 0 0)) (.val (.slice none 0 0))=some (.val (.bool true)):=ZBW
@[simp] def D3i{P}{t e:TypeId}{sz}{r}{rows}{own}(h:P.underlying t=some (.slice e)):A1K P .eql t (.list sz (r::rows) own) (.val (.slice none 0 0))=some (.val (.bool false)):=ZBW
@[simp] def D5J{P:Program}{t e:TypeId}(h:P.underlying t=some (.slice e)):A1K P .neq t (.val (.slice none 0 0)) (.val (.slice none 0 0))=some (.val (.bool false)):=ZBW
@[simp] def D4c{P:Program}{t e:TypeId}{sz:Nat}{r:List AV}{rows:List (List AV)}{own:Own}(h:P.underlying t=some (.slice e)):A1K P .neq t (.list sz (r::rows) own) (.val (.slice none 0 0))=some (.val (.bool true)):=ZBW
@[simp] def D5R{n}:A1s n none=some n:=(rfl)
@[simp] def D6A{n}{k}{i}:A1s n (some (.val (.int k i)))=if 0<=i/\i<=n then some i.toNat else none:=(rfl)
attribute [congr] ite_congr
def C8r(v:AV)(want:Bool)(run skip:Prop):Prop:=match v with
 |.val (.bool b)=>if b=want then run else skip
 |.val (.tuple _)=>skip
 |_=>False
def C6q(d:Option Tmp)(want:Bool)(T:Env)(run skip:Prop):Prop:=match d with
 |some d=>C8r (T d) want run skip
 |none=>False
def D1f{ops}{d}{op}{t:TypeId}{p}{af}{run skip:Prop}{j}{want}{T}:A2A ops ⟨d,op,t,p,af,some (j,want)⟩ T run skip=C6q ((ops[j]?).bind (·.dst)) want T run skip:=by
 unfold A2A C6q C8r
 rfl
def C8B(v:AV)(x y:Prop):Prop:=match v with
 |.val (.bool b)=>if b=true then x else y
 |_=>False
end Go.Abs
