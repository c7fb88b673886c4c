/- The texts AbsX5, AbsX6, AbsX7. -/
import Derived.Test.YtjmjekcaifkboaaGreatDoorQG04
import Derived.Laws.BytesString
set_option linter.all false
namespace Go.Abs
section
variable {C:Ctx} {G:A0q} {M:Mem} {w:World}
def C2e(P:Program)(t:TypeId):Option (Nat×TypeId):=match P.underlying t with
 |some (.array n e)=>some (n,e)
 |_=>none
def B7N{P}{t:TypeId}{n}{e:TypeId}(h:C2e P t=some (n,e)):P.underlying t=some (.array n e):=by
 unfold C2e at h;split at h
 .rename_i n' e' hu;cases h;exact hu
 .simp at h
def B1Y:Operand->Bool
 |.const _=>true
 |_=>false
def B1R(P:Program)(t:TypeId)(cx:Bool)(x y:AV):Option Bool:=match P.underlying t with
 |some (.interface _)=>match x,y with
  |.val .nilIface,.val .nilIface=>if cx then some true else none
  |.iface _ _,.val .nilIface=>some false
  |_,_=>none
 |some (.pointer e)=>match A1n P e with
  |some n=>if n=0 then none else match x,y with
   |.ptr b o,.ptr b2 o2=>if b=b2 then some (o==o2)else none
   |.vptr f g o,.vptr f2 g2 o2=>if f=f2/\g=g2 then some (o==o2)else none
   |_,_=>none
  |none=>none
 |_=>none
def B0J{α:Type}(sz:Nat):Nat->List α->List (List α)
 |0,_=>[]
 |n+1,z=>z.take sz::B0J sz n (z.drop sz)
def B1O{α:Type}{sz}:∀(n:Nat) (z:List α),z.length=n*sz->(B0J sz n z).flatten=z
 |0,z,h=>by simp at h;simp[B0J,h]
 |n+1,z,h=>by have:=B1O (sz:=sz) n (z.drop sz) (by rw[Z0G,h,Z0R];omega);simp only[B0J,Z1d,this,Z1j]
def B7x{α:Type}{sz}:∀(n:Nat) (z:List α),z.length=n*sz->∀q∈B0J sz n z,q.length=sz
 |0,z,h,q,hq=>by simp[B0J]at hq
 |n+1,z,h,q,hq=>by
  simp only[B0J,Z0p]at hq;have hl:sz<=z.length:=by rw[h,Z0R];omega
  rcases hq with rfl|hq
  .rw[Z0t];omega
  .exact B7x n (z.drop sz) (by rw[Z0G,h,Z0R];omega) q hq
def B1m(P:Program)(t:TypeId)(parts:List (Nat×AV)):Option AV:=match C2e P t,A0G P t with
 |some (n,e),some z=>match A1n P e with
  |some sz=>if z.length=n*sz/\z.all (·.oneCell')then(A1g sz parts (B0J sz n (z.map .val))).map λrows=>.agg rows.flatten else none
  |none=>none
 |_,_=>none
def A9d:List (List AV)->Option (List Int)
 |[]=>some []
 |r::rs=>match r with
  |[.val (.int .u8 n)]=>(A9d rs).map (n::·)
  |_=>none
def B3h(ns:List Int):ByteArray:=ns.foldl (λr n=>r.push (UInt8.ofNat n.toNat)) ByteArray.empty
def B3J{C}{G}{M}{w}(hi:Inv C G M w):∀(rows:List (List AV)) (ns:List Int) (b off:Nat),A9d rows=some ns->A0F G 1 rows b off->
 ∀(j:Nat) (v:Value),(ns.map (Value.int .u8))[j]?=some v->w.cell? ⟨b,off+j,none⟩=some v
 |[],ns,b,off,h,_,j,v,hv=>by simp only[A9d,Z0b]at h;subst h;simp at hv
 |r::rs,ns,b,off,h,hr,j,v,hv=>by
  simp only[A9d]at h;split at h;case h_2=>simp at h
  rename_i n;simp only[Z0l]at h;obtain⟨c,h',rfl⟩:=h;simp only[A0F,A0S]at hr;obtain⟨⟨_,⟨x,hx,_,a⟩,_⟩,h2⟩:=hr;cases j with
  |zero=>simp at hv;subst hv;simp only[Rep]at a;subst a;exact hi.st _ _ _ hx
  |succ j=>have:=B3J hi rs c b (off+1) h' h2 j v ZBQ;rw[show off+(j+1)=off+1+j by omega];exact this
def B8r:∀(rows:List (List AV)) (ns:List Int),A9d rows=some ns->ns.length=rows.length
 |[],ns,h=>by simp only[A9d,Z0b]at h;subst h;rfl
 |r::rs,ns,h=>by
  simp only[A9d]at h;split at h;case h_2=>simp at h
  simp only[Z0l]at h;obtain⟨a,h',rfl⟩:=h;simp[B8r rs a h']
def A1c(C:Ctx)(o:Oper)(ρ:Operand->AV):Option AV:=match o.op with
 |.indexAddr t x ix=>match C2e C.P t,ρ ix with
  |some (n,e),.val (.int _ i)=>match A1n C.P e with
   |some sz=>if 0<=i/\i<n then match ρ x with
    |.cptr cs=>some (.cptr (cs.drop (i.toNat*sz)))
    |.ptr b off=>some (.ptr b (off+i.toNat*sz))
    |.vptr f g off=>some (.vptr f g (off+i.toNat*sz))
    |_=>none
    else none
   |none=>none
  |_,_=>none
 |.index t x ix=>match C2e C.P t,ρ x,ρ ix with
  |some (n,e),.agg cs,.val (.int _ i)=>match A1n C.P e with
   |some sz=>if 0<=i/\i<n/\i.toNat*sz+sz<=cs.length then A0p C.P e (cs.drop (i.toNat*sz))else none
   |none=>none
  |_,_,_=>none
 |.build t parts=>B1m C.P t (parts.toList.map λp=>(p.1,ρ p.2))
 |.binOp .eql t x y _=>(B1R C.P t (B1Y y) (ρ x) (ρ y)).map λb=>.val (.bool b)
 |.binOp .neq t x y _=>(B1R C.P t (B1Y y) (ρ x) (ρ y)).map λb=>.val (.bool !b)
 |.unOp .xor _ x=>match ρ x with
  |.val (.int k n)=>(A9Y .xor k (if k.signed then -1 else k.max) n).map .val
  |_=>none
 |.convert src dst x=>match C.P.underlying src,C.P.underlying dst,ρ x with
  |some (.int _),some .string,.val (.int _ n)=>some (.val (.string (Utf8.encode n)))
  |some (.slice e),some .string,.list 1 rows _=>match C.P.underlying e with
   |some (.int .u8)=>(A9d rows).map λns=>.val (.string (B3h ns))
   |_=>none
  |_,_,_=>none
 |_=>none
def C6b(b o o2:Nat):((⟨b,o,none⟩:Addr)==⟨b,o2,none⟩)=(o==o2):=by
 by_cases h:o=o2
 .subst h;rw[Z2h o];exact Z3t.2 rfl
 .rw[Z1R.2 h,Z1R];intro e;simp only[Z3J]at e;exact h e.2.1
def B4u{t:TypeId}{x y}{xv yv}(hx:Rep G x xv)(hy:Rep G y yv){ox oy}{b}(h:B1R C.P t (B1Y oy) x y=some b):(do eqGuard .eql t ox oy xv yv;binOp .eql t xv yv:Sem Value).run C.P w=.ok (.bool b) w/\(do eqGuard .neq t ox oy xv yv;binOp .neq t xv yv:Sem Value).run C.P w=.ok (.bool !b) w:=by
 unfold B1R at h
 split at h
 .rename_i ms hu;split at h
  .split at h;(case isFalse=>simp at h);rename_i hc;simp only[Z0b]at h;subst h;simp only[Rep]at hx hy;subst hx;subst hy;(have h1:∃v,oy=.const v:=by cases oy<;>simp[B1Y]at hc;exact⟨_,rfl⟩);obtain⟨v,rfl⟩:=h1;(have i:∀d,(Op.equalIn (d+1) t .nilIface .nilIface).run C.P w=.ok true w:=λd=>by simp[Op.equalIn,Z0q hu]);have he:(Op.equal t .nilIface .nilIface).run C.P w=.ok true w:=i 9999;constructor
   .simp[eqGuard,binOp,he]
   .simp[eqGuard,binOp,he]
  .rename_i t' v';simp only[Z0b]at h;subst h;simp only[Rep]at hx hy;subst hy;obtain⟨y',rfl,_⟩:=hx;(have i:∀d,(Op.equalIn (d+1) t (.iface t' y') .nilIface).run C.P w=.ok false w:=λd=>by simp[Op.equalIn,Z0q hu]);have he:(Op.equal t (.iface t' y') .nilIface).run C.P w=.ok false w:=i 9999;constructor
   .simp[eqGuard,binOp,he]
   .simp[eqGuard,binOp,he]
  .simp at h
 .rename_i e hu;split at h;case h_2=>simp at h
  rename_i n hn;split at h
  .simp at h
  rename_i hn0;split at h
  .rename_i b1 o b2 o2;split at h;(case isFalse=>simp at h);rename_i hb;subst hb;simp only[Z0b]at h;subst h;simp only[Rep]at hx hy;obtain⟨_,rfl⟩:=hx;obtain⟨_,rfl⟩:=hy;refine A3E (λd=>?_) (.inl ⟨_,rfl⟩) (.inl ⟨_,rfl⟩);simp[Op.equalIn,Z0q hu,A1U hn,hn0,sameAddr];exact C6b _ _ _
  .rename_i f g o f2 g2 o2;split at h;(case isFalse=>simp at h);rename_i hb;obtain⟨rfl,rfl⟩:=hb;simp only[Z0b]at h;subst h;simp only[Rep]at hx hy;obtain⟨_,_,a,cap,hd,rfl⟩:=hx;obtain⟨_,_,a',j,c,rfl⟩:=hy;rw[hd]at c;simp only[Z0i,Z0b]at c;obtain⟨rfl,rfl⟩:=c;refine A3E (λd=>?_) (.inl ⟨_,rfl⟩) (.inl ⟨_,rfl⟩);simp[Op.equalIn,Z0q hu,A1U hn,hn0,sameAddr];rw[C6b];by_cases ho:o=o2
   .subst ho;rw[Z2h,Z2h]
   .rw[Z1R.2 ho,Z1R.2 Q0]
  .simp at h
 .simp at h
def B7E{t:TypeId}{ps}{xs}(hl:ps.length=xs.size)(d:∀(j:Nat) (p:Nat×AV) (x:Nat×Value),ps[j]?=some p->xs.toList[j]?=some x->p.1=x.1/\Rep G p.2 x.2){v}(h:B1m C.P t ps=some v):∃u,(Instr.build t xs).run C.P w=.ok u w/\Rep G v u:=by
 unfold B1m at h
 split at h
 case h_2=>simp at h
 rename_i n e z ha hz
 split at h
 case h_2=>simp at h
 rename_i sz hsz
 split at h
 case isFalse=>simp at h
 rename_i hc
 obtain⟨i,f⟩:=hc
 simp only[Z0l]at h
 obtain⟨rows,b,rfl⟩:=h
 obtain⟨zv,hv,c,g⟩:=A9P (P:=C.P) hz G w
 have a:(z.map AV.val).length=n*sz:=by simpa using i
 obtain⟨vs',q1,q2,q3,q4,q5⟩:=B4V (G:=G) ps xs.toList (B0J sz n (z.map .val)) rows zv.cells ZDL d (B7x n _ a) (by rw[B1O n _ a,c];exact g) (λy hy=>by rw[c]at hy;exact Z0D.1 f y hy) b
 refine⟨.agg vs',?_,by simp only[Rep];exact⟨_,rfl,q2,q3⟩⟩
 simp only[Instr.build,Z0E,hv,Z0u,Z0q (B7N ha),A1U hsz,q1,Z0O]
def B6u(hi:Inv C G M w){o}{ρ:Operand->AV}{σ:Operand->Value}(hρ:∀x∈o.op.operands.toList,Rep G (ρ x) (σ x)){v}(h:A1c C o ρ=some v):A3z C G w (execOp σ o) v M:=by
 obtain⟨dst,op,type,pos,after,guard⟩:=o;simp only at hρ;unfold A1c at h;simp only at h;split at h
 ·-- indexAddr
  rename_i t x ix;have hx:=hρ x ZAA;have c:=hρ ix ZAA;split at h;case h_2=>simp at h
  rename_i n e k i ha hei;split at h;case h_2=>simp at h
  rename_i sz hsz;split at h;case isFalse=>simp at h
  rename_i hc;obtain⟨h0,hlt⟩:=hc;rw[hei]at c;simp only[Rep]at c;have hu:=B7N ha;have run:∀(b off:Nat),σ x=.pointer (some ⟨b,off,none⟩)->(execOp σ ⟨dst,.indexAddr t x ix,type,pos,after,guard⟩).run C.P w=.ok (.value (.pointer (some ⟨b,off+i.toNat*sz,none⟩))) w:=by intro b off hp;simp[execOp,Instr.indexAt,hp,c,asIntOf,Z0q hu,Instr.sureAddr,h0,hlt,A1U hsz,Z1k]
  split at h
  .rename_i cs he;cases h;rw[he]at hx;simp only[Rep]at hx;obtain⟨b,j,hp,hm⟩:=hx;exact A3z.same hi (run b j hp) (by simp only[Rep];exact⟨b,_,rfl,hm.drop _⟩)
  .rename_i b off he;cases h;rw[he]at hx;simp only[Rep]at hx;exact A3z.same hi (run _ _ hx.2) (by simp only[Rep];exact⟨hx.1,trivial⟩)
  .rename_i f g off he;cases h;rw[he]at hx;simp only[Rep]at hx;obtain⟨q1,q2,a,cap,q3,hp⟩:=hx;exact A3z.same hi (run _ _ hp) (by simp only[Rep];exact⟨q1,q2,a,cap,q3,by rw[Z2F]⟩)
  .simp at h
 ·-- index
  rename_i t x ix;have hx:=hρ x ZAA;have c:=hρ ix ZAA;split at h;case h_2=>simp at h
  rename_i n e cs k i ha he hei;split at h;case h_2=>simp at h
  rename_i sz hsz;split at h;case isFalse=>simp at h
  rename_i hc;obtain⟨h0,hlt,r⟩:=hc;rw[hei]at c;rw[he]at hx;simp only[Rep]at hx c;obtain⟨ys,hp,hr,h1⟩:=hx;obtain⟨u,hu,z⟩:=A8w (C:=C) (w:=w) hr h1 (by simp[hsz,r]) h;refine A3z.same hi (x:=u) ?_ z;simp[execOp,Instr.index,hp,c,asIntOf,Z0q (B7N ha),h0,hlt,A1U hsz,hu]
 ·-- build
  rename_i t parts;obtain⟨u,h1,h2⟩:=B7E (C:=C) (G:=G) (w:=w) (xs:=parts.map λ(i,x)=>(i,σ x)) Q1 (λj p x hp hx=>by simp only[Z1i,Z0l]at hp;obtain⟨q,hq,rfl⟩:=hp;simp only[Z3L,Z1i,Z0l]at hx;obtain⟨q',l,rfl⟩:=hx;rw[hq]at l;simp at l;subst l;exact⟨rfl,hρ _ ZAN⟩) h;exact A3z.same hi (x:=u) (A3L h1) h2
 .rename_i t x y u;simp only[Z0l]at h;obtain⟨b,hb,rfl⟩:=h;have:=(B4u (w:=w) (ox:=x) (hρ x ZAA) (hρ y ZAA) hb).1;exact A3z.same hi (x:=.bool b) (A3L this) ZAE
 .rename_i t x y u;simp only[Z0l]at h;obtain⟨b,hb,rfl⟩:=h;have:=(B4u (w:=w) (ox:=x) (hρ x ZAA) (hρ y ZAA) hb).2;exact A3z.same hi (x:=.bool !b) (A3L this) ZAE
 .rename_i t x;have hx:=hρ x ZAA;split at h;case h_2=>simp at h
  rename_i k n he;simp only[A9Y,Z1T,Z0b]at h;subst h;rw[he]at hx;simp only[Rep]at hx;exact A3z.same hi (x:=_) (by simp[execOp,hx,Op.unary,Op.intBits];rfl) ZAE
 .rename_i src dst' x;have hx:=hρ x ZAA;split at h;case h_3=>simp at h
  .rename_i k k' n h1 h2 he;simp only[Z0b]at h;subst h;rw[he]at hx;simp only[Rep]at hx;exact A3z.same hi (x:=.string (Utf8.encode n)) (by simp[execOp,hx,convert,Z0q h1,Z0q h2,Conv.intToString]) ZAE
  .rename_i e rows own h1 h2 he;split at h;(case h_2=>simp at h);rename_i h3;simp only[Z0l]at h;obtain⟨ns,d,rfl⟩:=h;rw[he]at hx;simp only[Rep]at hx;obtain⟨base,cap,hp,_,_,hb,_⟩:=hx;have m:=B8r rows ns d;refine A3z.same hi (x:=.string (B3h ns)) ?_ ZAE;refine A3L ?_;rw[hp];cases base with
   |none=>have:rows=[]:=hb.1;subst this;simp only[A9d,Z0b]at d;subst d;simp[convert,Z0q h1,Z0q h2,Z0q h3,Conv.bytesToString,B3h]
   |some a=>rw[run_convert_bytes_string w src dst' e (some a) rows.length cap h1 h3 h2];refine run_bytesToString w a rows.length cap ns ?_;rw[<-m,<-Z0W (f:=Value.int .u8) (as:=ns)];refine Z4e w a _ λj v hv=>?_;(have s:rows≠[]:=by rintro rfl;simp only[A9d,Z0b]at d;subst d;simp at hv);obtain⟨bb,oo,sp⟩:=a;have hs:sp=none:=hb.1 s;subst hs;rw[Z1k];exact B3J hi rows ns bb oo d hb.2 j v hv
 .simp at h
end
section
variable {C:Ctx} {G:A0q} {M:Mem} {w:World}
def B0c(P:Program)(t:TypeId)(x:AV)(M:Mem):Option (AV×Mem):=match P.underlying t,x with
 |some .string,.val (.string s)=>some (.ptr M.length 0,M++[.siter s 0])
 |_,_=>none
def A9b(x:AV)(M:Mem):Option (AV×Mem):=match x with
 |.ptr b 0=>match M[b]? with
  |some (.siter s pos)=>if pos<s.size then
   some (.tuple [.val (.bool true),.val (goInt pos),.val (.int .i32 (Utf8.decode s pos).1)],M.set b (.siter s (pos+(Utf8.decode s pos).2)))
   else some (.tuple [.val (.bool false)],M)
  |_=>none
 |_=>none
def C5Z(hi:Inv C G M w){t:TypeId}{x}{xv}(hx:Rep G x xv){v}{M'}(h:B0c C.P t x M=some (v,M')):∃u w' G',(Instr.range t xv).run C.P w=.ok u w'/\G.le G'/\Inv C G' M' w'/\Rep G' v u/\Ext w w':=by
 unfold B0c at h
 split at h
 case h_2=>simp at h
 rename_i s hu
 simp only[Z0b,Z0i]at h
 obtain⟨rfl,rfl⟩:=h
 simp only[Rep]at hx
 subst hx
 obtain⟨G',d,e,a,c,_,_⟩:=hi.newObj (.stringIter s 0) (.siter s 0) (λ_=>(none,0)) 0 (λG' _ hb _ _ _ hk=>⟨by rw[hb];exact Z1Z w _,by rw[hb];exact hk⟩) (λG' b hb _ ho=>by simp only[A3p,hb]at ho;exact ho)
 refine⟨.pointer (some ⟨w.heap.size,0,none⟩),_,G',?_,e,d,by simp only[Rep];exact⟨c,by rw[a]⟩,Ext.alloc _ _⟩
 simp[Instr.range,Z0q hu]
def B6L{P}{r}{s}{c}(h:w.heap[r]?=some (.stringIter s c))(o:Obj):(setObj r o).run P w=.ok () {w with heap:=w.heap.setIfInBounds r o}:=by simp[setObj,Sem.run,h]
def B0T{P}{r}{s}{c}(h:w.heap[r]?=some (.stringIter s c)):(getObj r).run P w=.ok (.stringIter s c) w:=by simp[getObj,Sem.run,h]
def C6X(hi:Inv C G M w){x}{xv}(hx:Rep G x xv)(ty:TypeId){v}{M'}(h:A9b x M=some (v,M')):∃u w',(Instr.next xv true ty).run C.P w=.ok u w'/\Inv C G M' w'/\Rep G v u/\Ext w w':=by
 unfold A9b at h
 split at h
 case h_2=>simp at h
 rename_i b
 split at h
 case h_2=>simp at h
 rename_i s pos hM
 simp only[Rep]at hx
 obtain⟨hb,rfl⟩:=hx
 obtain⟨hh,hk⟩:=hi.obj b _ hM
 split at h
 .rename_i hlt;simp only[Z0b,Z0i]at h;obtain⟨rfl,rfl⟩:=h;have d:=A4x hh;refine⟨.tuple #[.bool true,goInt pos,.int .i32 (Utf8.decode s pos).1],{w with heap:=w.heap.setIfInBounds (G.blk b) (.stringIter s (pos+(Utf8.decode s pos).2))},?_,?_,?_,Ext.setHeap _ _ _⟩
  .simp[Instr.next,B0T hh,hlt,B6L hh]
  .have a:∀c,(w.heap.setIfInBounds (G.blk b) (.stringIter s (pos+(Utf8.decode s pos).2)))[c]?=if c=G.blk b then some (.stringIter s (pos+(Utf8.decode s pos).2))else w.heap[c]?:=by
    intro c;rw[Z4c];by_cases e:G.blk b=c
    .subst e;simp[d]
    .rw[Z0d e,Z0d (λh=>e h.symm)]
   refine hi.step b (G.blk b) hM (.inl rfl) (.refl _) rfl (λ_=>rfl) (λ_ _=>⟨rfl,rfl⟩) (λb i v h=>.inl h) (λ_=>rfl) (λc _ hne=>by simp only[a,Z0d hne]) (λi v h=>by have:=hi.st _ _ _ h;simp[World.cell?,hh]at this) (λo h=>by rw[hk]at h;simp at h) ⟨by simp only[a,Z1e],hk⟩ (λb hb=>.inl hb)
  .simp[Rep,A0v]
 .rename_i hlt;simp only[Z0b,Z0i]at h;obtain⟨rfl,rfl⟩:=h;refine⟨.tuple #[.bool false],w,?_,hi,by simp[Rep,A0v],.refl _⟩;simp[Instr.next,B0T hh,hlt]
end
section
variable {C:Ctx} {G:A0q} {M:Mem} {w:World}
def A3W(P:Program)(t:TypeId)(M:Mem)(x:AV)(lo hi mx:Option AV):Option AV:=match x with
 |.vref f g sz lo0 len=>match hi,M[f]? with
  |some h,some (.vec _ _ _ _ hist)=>match hist.lookup g with
   |some n=>if lo0<=n then match mx with
    |none=>A4d P t f g sz lo0 (n-lo0) lo (some h) none
    |some m=>match A1b P t,A7K (n-lo0) (some m)with
     |some e,some (some q)=>match A1n P e,A1s q (some h)with
      |some _,some hh=>match A8L hh lo with
       |some _=>some .poison
       |none=>none
      |_,_=>none
     |_,_=>none
    else none
   |none=>none
  |_,_=>none
 |_=>none
def C7x(len c cap:Nat)(b:Option Value)(h:Value)(a:Option Value):Instr.sliceBounds true len cap b (some h) a=Instr.sliceBounds true c cap b (some h) a:=by unfold Instr.sliceBounds;cases a<;>rfl
def B6q{P}{t e:TypeId}(hu:P.underlying t=some (.slice e))(a:Option Addr)(len b cap:Nat)(d:Option Value)(h:Value)(c:Option Value)(w:World):(Instr.sliceAt t (.slice a len cap) d (some h) c).run P w=(Instr.sliceAt t (.slice a b cap) d (some h) c).run P w:=by simp only[Instr.sliceAt,Instr.slice,Z0E,Z0q hu,Z0u,C7x len b]
def B6G(hi:Inv C G M w){t:TypeId}{x}{xv}(hx:Rep G x xv){lo hiO mx}{xlo xhi xmx}{v}
 (y:∀a,lo=some a->∃x,xlo=some x/\Rep G a x)(i:lo=none->xlo=none)
 (a1:∀a,hiO=some a->∃x,xhi=some x/\Rep G a x)(a3:hiO=none->xhi=none)
 (k:∀a,mx=some a->∃x,xmx=some x/\Rep G a x)(d:mx=none->xmx=none)(h:A3W C.P t M x lo hiO mx=some v):
 ∃u,(Instr.sliceAt t xv xlo xhi xmx).run C.P w=.ok u w/\Rep G v u:=by
 unfold A3W at h
 split at h
 case h_2=>simp at h
 rename_i f g sz lo0 len
 split at h
 case h_2=>simp at h
 rename_i hA e1 s1 cs g1 hist hM
 split at h
 case h_2=>simp at h
 rename_i n hn
 split at h
 case isFalse=>simp at h
 rename_i hle
 obtain⟨hv,s,r⟩:=a1 hA rfl
 subst s
 have a6:=hx
 simp only[Rep]at hx
 obtain⟨hf,hg,a,a',cap,hd,a5,j,rfl,a4,a0,a2⟩:=hx
 obtain⟨p0,p2,p3⟩:=hi.obj f _ hM
 obtain⟨_,q0,b,o,c,vs,q1,q2,_⟩:=p2 g n (A2S hn)
 rw[q1]at hd
 simp only[Z0i,Z0b]at hd
 obtain⟨rfl,rfl⟩:=hd
 split at h
 .have z:Rep G (.vref f g sz lo0 (n-lo0)) (.slice (some a') (n-lo0) (c-lo0)):=by simp only[Rep];exact⟨hf,hg,_,a',c,q1,rfl,j,rfl,Q0,a0,a2⟩
  obtain⟨u,h1,h2⟩:=B4k (C:=C) (w:=w) z y i (hi:=some hA) (λa ha=>by simp at ha;subst ha;exact⟨hv,rfl,r⟩) Q1 k d h;refine⟨u,?_,h2⟩;have he:∃e,A1b C.P t=some e:=by
   cases he:A1b C.P t with
   |none=>unfold A4d at h;rw[he]at h;simp[A7K]at h
   |some e=>exact⟨e,rfl⟩
  obtain⟨e,he⟩:=he;rw[B6q (A2q he) _ len (n-lo0)];exact h1
 .rename_i m;split at h;case h_2=>simp at h
  rename_i e q he hq;split at h;case h_2=>simp at h
  rename_i sz' hh hsz hhe;split at h;case h_2=>simp at h
  rename_i l hl;simp only[Z0b]at h;subst h;obtain⟨m',p,_⟩:=B2X (C:=C) (w:=w) (G:=G) (len:=n-lo0) (cap:=c-lo0) Q0 y i (hi:=some hA) (λa ha=>by simp at ha;subst ha;exact⟨hv,rfl,r⟩) Q1 k d (m:=some q) hq (by simpa using hhe) Q1 hl;refine⟨.slice (if m'=l then some a' else(some a').map (·.add (l*sz'))) (hh-l) (m'-l),?_,ZAE⟩;rw[B6q (A2q he) _ len (n-lo0)];simp only[Instr.sliceAt,Instr.slice,Z0E,Z0q (A2q he),Z0u,p,A1U hsz,Z0O]
def A7L(P:Program)(t:TypeId)(M:Mem)(x:AV):Option (AV×Mem):=match x with
 |.vref f g sz lo len=>match A1b P t with
  |some e=>match A0G P e,M[f]? with
   |some z,some (.vec ty sz2 cs g' hist)=>match hist.lookup g with
    |some n=>if z.length=sz/\sz2=sz/\0<sz/\z.all (·.oneCell')/\lo+len<=n then
     if len=0 then some (.tuple [],M)else
     some (.tuple [],M.set f (.vec ty sz (A0e cs (lo*sz) (List.replicate len (z.map .val)).flatten) g' (A0Q sz g (lo*sz) hist)))
     else none
    |none=>none
   |_,_=>none
  |none=>none
 |_=>none
def C4O(hi:Inv C G M w){t ty:TypeId}{x}{xv}(hx:Rep G x xv){v}{M'}(h:A7L C.P t M x=some (v,M')):∃r w',(Builtin.clear_ #[t] ty #[xv]).run C.P w=.ok r w'/\Inv C G M' w'/\Rep G v r/\Ext w w':=by
 unfold A7L at h
 split at h
 case h_2=>simp at h
 rename_i f g sz lo len
 split at h
 case h_2=>simp at h
 rename_i e he
 split at h
 case h_2=>simp at h
 rename_i z ety sz2 cs g' hist hz hM
 split at h
 case h_2=>simp at h
 rename_i n hn
 split at h
 case isFalse=>simp at h
 rename_i hc
 obtain⟨c,rfl,i,s,a8⟩:=hc
 simp only[Rep]at hx
 obtain⟨hf,hg,a,a',cap,hdr,a9,a5,rfl,aa,a7,a4⟩:=hx
 split at h
 .rename_i h0;subst h0;simp only[Z0b,Z0i]at h;obtain⟨rfl,rfl⟩:=h;exact⟨.tuple #[],w,by simp[Builtin.clear_,Z0q (A2q he)],hi,by simp[Rep,A0v],.refl _⟩
 .rename_i h0;simp only[Z0b,Z0i]at h;obtain⟨rfl,rfl⟩:=h;obtain⟨zv,hv,p,y⟩:=A9P (P:=C.P) hz G w;have a0:∀n,A0v G (List.replicate n (z.map AV.val)).flatten (List.replicate n z).flatten:=by
   intro n;induction n with
   |zero=>simp[A0v]
   |succ n ih=>rw[Z2m,Z2m,Z1d,Z1d];exact y.append ih
  have j:(List.replicate len (z.map AV.val)).flatten.length=len*sz2:=by simp[c]
  have m:∀u∈(List.replicate len z).flatten,u.oneCell'=true:=λu hu=>by obtain⟨l,a3,q⟩:=Z3K.1 hu;have:=(Z3q.1 a3).2;subst this;exact Z0D.1 s u q
  have ha:=a4 (by obtain⟨_,p2,_⟩:=hi.obj f _ hM;obtain⟨_,_,b,o,a6,vs,q1,q2,_⟩:=p2 g n (A2S hn);rw[q1]at hdr;simp only[Z0i]at hdr;obtain⟨_,rfl⟩:=hdr;omega);have hb:lo*sz2+(List.replicate len (z.map AV.val)).flatten.length<=n*sz2:=by rw[j,<-Z0R];exact Z0V _ Q0
  obtain⟨a2,w',e2,d,h2,h3⟩:=A7m hi (f:=f) (g:=g) (off:=lo*sz2) (x:=.pointer (some ⟨a.block,a.off+lo*sz2,none⟩)) (by simp only[Rep];exact⟨hf,hg,a,cap,hdr,rfl⟩) (a0 len) m hM hn hb;simp only[Z2X,Z0b]at e2;subst e2;rw[<-ha]at d;refine⟨.tuple #[],w',?_,h2,by simp[Rep,A0v],h3⟩;have a1:(Builtin.zeroCells zv.cells len).toList=(List.replicate len z).flatten:=by
   (have e:zv.cells=z.toArray:=by apply Z1O;simpa using p);have:=B2S z len sz2 c i
   rw[e];unfold Builtin.zeroCells;(have hs:z.toArray.size=sz2:=by simpa using c);rw[hs]at this|-;exact this
  cases len with
  |zero=>exact absurd rfl h0
  |succ k=>simp[Builtin.clear_,Z0q (A2q he),hv,a1,d]
end
end Go.Abs
