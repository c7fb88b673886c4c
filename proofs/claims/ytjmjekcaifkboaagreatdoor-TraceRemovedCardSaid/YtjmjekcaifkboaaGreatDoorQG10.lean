/- The texts AbsX8, AbsX9. -/
import Derived.Test.YtjmjekcaifkboaaGreatDoorQG06
import Derived.Laws.IdiomStrings
set_option linter.all false
namespace Go.Abs
section
variable {C:Ctx} {G:A0q} {M:Mem} {w:World}
def Inv.fixF(hi:Inv C G M w)(c:Array Value)(t:TypeId)(fz:Nat×Nat)(vs:List Value)(l:∀(i:Nat) (v:Value),vs[i]?=some v->c[i]?=some v):Inv C (G.fix w.heap.size vs) M (w.alloc (.cells c t fz)):=by
 have d:=A0q.le_fix hi vs
 have f:∀b i v,(G.fix w.heap.size vs).st b i=some v->(b=w.heap.size/\vs[i]?=some v)\/(b<w.heap.size/\G.st b i=some v):=by
  intro b i v h;simp only[A0q.fix]at h;by_cases e:b=w.heap.size
  .rw[Z0c e]at h;exact .inl ⟨e,h⟩
  .rw[Z0d e]at h;exact .inr ⟨hi.st_lt h,h⟩
 have a:=λb (h:b<w.heap.size)=>A2N w (.cells c t fz) b h
 refine⟨hi.n,?_,?_,?_,?_,λg=>Rep.mono d _ _ (hi.gl g),hi.tab_le d⟩
 .intro b i v hv;rcases f b i v hv with⟨rfl,h⟩|⟨hlt,h⟩
  .have:=Z1Z w (.cells c t fz);rw[Z2U _ _ _ _ _ _ this];exact l i v h
  .rw[B9f _ _ _ _ hlt];exact hi.st b i v h
 .intro b o ho;rw[a b (hi.keep_lt ho)];exact hi.keep b o ho
 .intro k o hk;have ho:=hi.obj k o hk;refine ho.keeps d (by rw[hi.n];exact A0P hk) rfl ⟨rfl,rfl⟩ (λb hb i v hv=>?_) (λ_=>rfl) (λb hb=>a b (ho.owns_lt hb));have hlt:=ho.owns_lt hb;simp only[A0q.fix]at hv;rwa[Z0d Q0]at hv
 .intro i j x y b hx hy ox oy;have ob:∀k x b,A3p (G.fix w.heap.size vs) k x b<->A3p G k x b:=λk x b=>by cases x<;>exact Iff.rfl
  rw[ob]at ox oy;exact hi.apart i j x y b hx hy ox oy
def B6Q(P:Program)(src dst:TypeId)(x:AV):Option AV:=match P.underlying src,P.underlying dst,x with
 |some .string,some (.slice e),.val (.string s)=>match P.underlying e with
  |some (.int .u8)=>if s.size<2^62 then some (.list 1 (s.data.toList.map λb=>[.val (.int .u8 b.toNat)]) .no)else none
  |_=>none
 |_,_,_=>none
def B1M{α β:Type}(f:α->β):∀l:List α,(l.map λb=>[f b]).flatten=l.map f
 |[]=>rfl
 |a::l=>by simp[B1M f l]
def C0o:∀l:List Value,A0v G (l.map .val) l
 |[]=>by simp[A0v]
 |v::l=>by simp only[Z0x,A0v];exact⟨v,l,rfl,ZAE,C0o l⟩
def C4K(hi:Inv C G M w){src dst:TypeId}{x}{xv}(hx:Rep G x xv){v}(h:B6Q C.P src dst x=some v):∃u w' G',(convert src dst xv).run C.P w=.ok u w'/\G.le G'/\Inv C G' M w'/\Rep G' v u/\Ext w w':=by
 unfold B6Q at h
 split at h
 case h_2=>simp at h
 rename_i e s hs hd
 split at h
 case h_2=>simp at h
 rename_i he
 split at h
 case isFalse=>simp at h
 rename_i hsz
 simp only[Z0b]at h
 subst h
 simp only[Rep]at hx
 subst hx
 have d:Inv C G M w.drew:=hi.world rfl
 have a:=run_bytes_of_string w src dst e s hs hd he
 have f:=Z3F w s.size 0 e
 have k:=Z2P w s.size 0 e (Z0J (Z4t hsz) ZAR)
 generalize grownCap w s.size 0 e=nc at a f k
 have g:∀(i:Nat) (v:Value),(s.data.toList.map λb=>Value.int .u8 b.toNat)[i]?=some v->(bytesRow s nc)[i]?=some v:=by intro i v hv;have hlt:=A0P hv;simp only[Z0W,Z0X]at hlt;unfold bytesRow;rw[Z4j (by simpa using hlt)];simpa using hv
 have l:=d.fixF (bytesRow s nc) e ((bytesRow s nc).size,(bytesRow s nc).size+1) (s.data.toList.map λb=>Value.int .u8 b.toNat) g
 refine⟨_,_,_,a,A0q.le_fix d _,l,?_,(Ext.drew w).trans (Ext.alloc _ _)⟩
 have c:(s.data.toList.map λb=>[AV.val (.int .u8 b.toNat)]).length=s.size:=by rw[Z0W,Z0X];rfl
 refine A5C (base:=some ⟨w.heap.size,0,none⟩) c.symm (by rw[c];exact f) k ⟨λ_=>rfl,?_⟩ (by simp[A5v])
 refine A0F.mk (λr hr=>by obtain⟨b,_,rfl⟩:=Z0C.1 hr;rfl) ?_
 rw[B1M]
 have e1:(s.data.toList.map λb=>AV.val (.int .u8 b.toNat))=(s.data.toList.map λb=>Value.int .u8 b.toNat).map AV.val:=ZBG
 rw[e1]
 refine A0S.mk (A0v.mono (A0q.le_fix d _) _ _ (C0o _)) (λv hv=>by obtain⟨b,_,rfl⟩:=Z0C.1 hv;rfl) (λj v hv=>?_)
 have:w.drew.heap.size=w.heap.size:=rfl
 simp only[A0q.fix,this,Z1e,Z0P]
 exact hv
end
section
variable {C:Ctx} {G:A0q} {M:Mem} {w:World}
def D3h(P:Program)(src dst:TypeId)(M:Mem)(x:AV):Option AV:=match P.underlying src,P.underlying dst,x with
 |some (.pointer t),some .unsafePointer,.ptr b off=>match M[b]?,A1n P t with
  |some (.cells bt cs),some n=>if n≠0/\off<cs.length then some (.ptr b off)else none
  |_,_=>none
 |some .unsafePointer,some (.pointer u),.ptr b off=>match M[b]?,A1n P u with
  |some (.cells bt cs),some n=>if n≠0/\liesAt P P.depth bt (cs.length/P.cellsOf bt) off u 1=true then some (.ptr b off)else none
  |_,_=>none
 |_,_,_=>none
def C5z(hi:Inv C G M w){src dst:TypeId}{x}{xv}(hx:Rep G x xv){v}(h:D3h C.P src dst M x=some v):∃u,(convert src dst xv).run C.P w=.ok u w/\Rep G v u:=by
 unfold D3h at h
 split at h
 .rename_i t b off hs hd;split at h;case h_2=>simp at h
  rename_i bt cs n hM hn;split at h;case isFalse=>simp at h
  rename_i hc;simp only[Z0b]at h;subst h;obtain⟨vs,hh,hr,_⟩:=hi.obj b _ hM;have c:=hx;simp only[Rep]at hx;obtain⟨_,rfl⟩:=hx;have a:vs.size=cs.length:=by have:=hr.length;simpa using this
  have d:w.shape? (G.blk b)=some (bt,vs.size):=by simp[World.shape?,hh]
  have e:¬vs.size<=off:=Q0;refine⟨_,?_,c⟩;simp[convert,Z0q hs,Z0q hd,Conv.unsafePointer,Conv.seenAt,viewAt,cellsIn,d,A1U hn,hc.1,e]
 .rename_i u b off hs hd;split at h;case h_2=>simp at h
  rename_i bt cs n hM hn;split at h;case isFalse=>simp at h
  rename_i hc;simp only[Z0b]at h;subst h;obtain⟨vs,hh,hr,_⟩:=hi.obj b _ hM;have c:=hx;simp only[Rep]at hx;obtain⟨_,rfl⟩:=hx;have a:vs.size=cs.length:=by have:=hr.length;simpa using this
  have d:w.shape? (G.blk b)=some (bt,vs.size):=by simp[World.shape?,hh]
  refine⟨_,?_,c⟩;have hl:=hc.2;rw[<-a]at hl;simp[convert,Z0q hs,Z0q hd,Conv.unsafePointer,Conv.seenAt,viewAt,variablesAt,d,A1U hn,hc.1,hl]
 .simp at h
end
end Go.Abs
