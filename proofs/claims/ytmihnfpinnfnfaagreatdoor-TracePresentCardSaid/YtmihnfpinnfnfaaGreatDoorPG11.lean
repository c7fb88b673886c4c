/- The texts AbsX8, AbsX9. -/
import Derived.Test.YtmihnfpinnfnfaaGreatDoorPG07
import Derived.Laws.IdiomStrings
set_option linter.all false
namespace Go.Abs
section
variable {C:Ctx} {G:A0p} {M:Mem} {w:World}
def Inv.fixF(hi:Inv C G M w)(c:Array Value)(t:TypeId)(fz:Nat×Nat)(vs:List Value)(m:∀(i:Nat) (v:Value),vs[i]?=some v->c[i]?=some v):Inv C (G.fix w.heap.size vs) M (w.alloc (.cells c t fz)):=by
 have d:=A0p.le_fix hi vs
 have l:∀b i v,(G.fix w.heap.size vs).st b i=some v->(b=w.heap.size/\vs[i]?=some v)\/(b<w.heap.size/\G.st b i=some v):=by
  intro b i v h;simp only[A0p.fix]at h;by_cases e:b=w.heap.size
  .rw[Z0c e]at h;exact .inl ⟨e,h⟩
  .rw[Z0d e]at h;exact .inr ⟨hi.st_lt h,h⟩
 have a:=λb (h:b<w.heap.size)=>A2E w (.cells c t fz) b h
 refine⟨hi.n,?_,?_,?_,?_,λg=>Rep.mono d _ _ (hi.gl g),hi.tab_le d⟩
 .intro b i v hv;rcases l b i v hv with⟨rfl,h⟩|⟨f,h⟩
  .have:=Z1U w (.cells c t fz);rw[Z2P _ _ _ _ _ _ this];exact m i v h
  .rw[B8s _ _ _ _ f];exact hi.st b i v h
 .intro b o ho;rw[a b (hi.keep_lt ho)];exact hi.keep b o ho
 .intro k o hk;have ho:=hi.obj k o hk;refine ho.keeps d (by rw[hi.n];exact A0N hk) rfl ⟨rfl,rfl⟩ (λb hb i v hv=>?_) (λ_=>rfl) (λb hb=>a b (ho.owns_lt hb));have f:=ho.owns_lt hb;simp only[A0p.fix]at hv;rwa[Z0d Q0]at hv
 .intro i j x y b hx hy ox oy;have ob:∀k x b,A2D (G.fix w.heap.size vs) k x b<->A2D G k x b:=λk x b=>by cases x<;>exact Iff.rfl
  rw[ob]at ox oy;exact hi.apart i j x y b hx hy ox oy
def B6h(P:Program)(src dst:TypeId)(x:AV):Option AV:=match P.underlying src,P.underlying dst,x with
 |some .string,some (.slice e),.val (.string s)=>match P.underlying e with
  |some (.int .u8)=>if s.size<2^62 then some (.list 1 (s.data.toList.map λb=>[.val (.int .u8 b.toNat)]) .no)else none
  |_=>none
 |_,_,_=>none
def B1h{α β:Type}(f:α->β):∀l:List α,(l.map λb=>[f b]).flatten=l.map f
 |[]=>rfl
 |a::l=>by simp[B1h f l]
def B9A:∀l:List Value,A0s G (l.map .val) l
 |[]=>by simp[A0s]
 |v::l=>by simp only[Z0w,A0s];exact⟨v,l,rfl,by simp[Rep],B9A l⟩
def C3t(hi:Inv C G M w){src dst:TypeId}{x}{xv}(hx:Rep G x xv){v}(h:B6h C.P src dst x=some v):∃u w' G',(convert src dst xv).run C.P w=.ok u w'/\G.le G'/\Inv C G' M w'/\Rep G' v u/\Ext w w':=by
 unfold B6h at h
 split at h
 case h_2=>simp at h
 rename_i e s hs hd
 split at h
 case h_2=>simp at h
 rename_i he
 split at h
 case isFalse=>simp at h
 rename_i hsz
 simp only[Z0b]at h
 subst h
 simp only[Rep]at hx
 subst hx
 have d:Inv C G M w.drew:=hi.world rfl
 have a:=run_bytes_of_string w src dst e s hs hd he
 have f:=Z3s w s.size 0 e
 have l:=Z2H w s.size 0 e (Z0L (Z4g hsz) (by decide))
 generalize grownCap w s.size 0 e=nc at a f l
 have k:∀(i:Nat) (v:Value),(s.data.toList.map λb=>Value.int .u8 b.toNat)[i]?=some v->(bytesRow s nc)[i]?=some v:=by intro i v hv;have g:=A0N hv;simp only[Z0N,Z0W]at g;unfold bytesRow;rw[Z3U (by simpa using g)];simpa using hv
 have m:=d.fixF (bytesRow s nc) e ((bytesRow s nc).size,(bytesRow s nc).size+1) (s.data.toList.map λb=>Value.int .u8 b.toNat) k
 refine⟨_,_,_,a,A0p.le_fix d _,m,?_,(Ext.drew w).trans (Ext.alloc _ _)⟩
 have c:(s.data.toList.map λb=>[AV.val (.int .u8 b.toNat)]).length=s.size:=by rw[Z0N,Z0W];rfl
 refine A5m (base:=some ⟨w.heap.size,0,none⟩) c.symm (by rw[c];exact f) l ⟨λ_=>rfl,?_⟩ (by simp[A5G])
 refine A0C.mk (λr hr=>by obtain⟨b,_,rfl⟩:=Z0H.1 hr;rfl) ?_
 rw[B1h]
 have e1:(s.data.toList.map λb=>AV.val (.int .u8 b.toNat))=(s.data.toList.map λb=>Value.int .u8 b.toNat).map AV.val:=by simp
 rw[e1]
 refine A0Q.mk (A0s.mono (A0p.le_fix d _) _ _ (B9A _)) (λv hv=>by obtain⟨b,_,rfl⟩:=Z0H.1 hv;rfl) (λj v hv=>?_)
 have:w.drew.heap.size=w.heap.size:=rfl
 simp only[A0p.fix,this,Z1f,Z0P]
 exact hv
end
section
variable {C:Ctx} {G:A0p} {M:Mem} {w:World}
def D1q(P:Program)(src dst:TypeId)(M:Mem)(x:AV):Option AV:=match P.underlying src,P.underlying dst,x with
 |some (.pointer t),some .unsafePointer,.ptr b off=>match M[b]?,A1j P t with
  |some (.cells bt cs),some n=>if n≠0/\off<cs.length then some (.ptr b off)else none
  |_,_=>none
 |some .unsafePointer,some (.pointer u),.ptr b off=>match M[b]?,A1j P u with
  |some (.cells bt cs),some n=>if n≠0/\liesAt P P.depth bt (cs.length/P.cellsOf bt) off u 1=true then some (.ptr b off)else none
  |_,_=>none
 |_,_,_=>none
def C4j(hi:Inv C G M w){src dst:TypeId}{x}{xv}(hx:Rep G x xv){v}(h:D1q C.P src dst M x=some v):∃u,(convert src dst xv).run C.P w=.ok u w/\Rep G v u:=by
 unfold D1q at h
 split at h
 .rename_i t b off hs hd;split at h;case h_2=>simp at h
  rename_i bt cs n hM hn;split at h;case isFalse=>simp at h
  rename_i hc;simp only[Z0b]at h;subst h;obtain⟨vs,hh,hr,_⟩:=hi.obj b _ hM;have c:=hx;simp only[Rep]at hx;obtain⟨_,rfl⟩:=hx;have a:vs.size=cs.length:=by have:=hr.length;simpa using this
  have d:w.shape? (G.blk b)=some (bt,vs.size):=by simp[World.shape?,hh]
  have e:¬vs.size<=off:=Q0;refine⟨_,?_,c⟩;simp[convert,Z0p hs,Z0p hd,Conv.unsafePointer,Conv.seenAt,viewAt,cellsIn,d,A1N hn,hc.1,e]
 .rename_i u b off hs hd;split at h;case h_2=>simp at h
  rename_i bt cs n hM hn;split at h;case isFalse=>simp at h
  rename_i hc;simp only[Z0b]at h;subst h;obtain⟨vs,hh,hr,_⟩:=hi.obj b _ hM;have c:=hx;simp only[Rep]at hx;obtain⟨_,rfl⟩:=hx;have a:vs.size=cs.length:=by have:=hr.length;simpa using this
  have d:w.shape? (G.blk b)=some (bt,vs.size):=by simp[World.shape?,hh]
  refine⟨_,?_,c⟩;have hl:=hc.2;rw[<-a]at hl;simp[convert,Z0p hs,Z0p hd,Conv.unsafePointer,Conv.seenAt,viewAt,variablesAt,d,A1N hn,hc.1,hl]
 .simp at h
end
end Go.Abs
