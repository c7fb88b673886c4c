/- The texts Zal, AbsA, AbsB, AbsC, AbsC2, AbsD, AbsE. -/
import Derived.WalkKit
set_option linter.all false
section
def Z0a:=@List.getElem?_eq_some_iff
def Z0b:=@Option.some.injEq
def Z0c:=@if_pos
def Z0d:=@if_neg
def Z0e:=@List.take_of_length_le
def Z0f:=@List.getElem?_set_ne
def Z0g:=@Prod.mk.injEq
def Z0h:=@Bool.and_eq_true
def Z0i:=@List.getElem?_eq_getElem
def Z0j:=@Nat.le_refl
def Z0k:=@List.length_append
def Z0l:=@Option.map_eq_some_iff
def Z0m:=@decide_eq_true_eq
def Z0n:=@List.getElem?_append_left
def Z0o:=@List.drop_eq_getElem_cons
def Z0p:=@Go.run_underlying
def Z0q:=@List.length_cons
def Z0r:=@List.mem_cons
def Z0s:=@List.length_take
def Z0t:=@Go.Result.andThen_ok
def Z0u:=@List.getElem_mem
def Z0v:=@List.eq_nil_of_length_eq_zero
def Z0w:=@List.map_cons
def Z0x:=@List.getElem?_take
def Z0y:=@List.drop_eq_nil_of_le
def Z0z:=@List.flatMap_cons
def Z0A:=@List.take_add_one
def Z0B:=@decide_eq_true
def Z0C:=@List.getElem?_drop
def Z0D:=@List.all_eq_true
def Z0E:=@Go.Sem.run_bind
def Z0F:=@List.append_assoc
def Z0G:=@List.length_drop
def Z0H:=@List.mem_map
def Z0I:=@decide_eq_false
def Z0J:=@Bool.false_and
def Z0K:=@ByteArray.size_append
def Z0L:=@Nat.le_trans
def Z0M:=@Go.Sem.run_pure
def Z0N:=@List.length_map
def Z0O:=@List.cons_append
def Z0P:=@Nat.zero_add
def Z0Q:=@Nat.add_mul
def Z0R:=@List.mem_singleton
def Z0S:=@Nat.add_zero
def Z0T:=@List.mem_append
def Z0U:=@Nat.mul_le_mul_right
def Z0V:=@Bool.true_and
def Z0W:=@Array.length_toList
def Z0X:=@Option.toList_some
def Z0Y:=@List.getElem?_append
def Z0Z:=@Nat.lt_of_lt_of_le
def Z1a:=@List.flatten_cons
def Z1b:=@List.take_append_drop
def Z1c:=@List.map_append
def Z1d:=@List.pairwise_cons
def Z1e:=@Array.getElem?_eq_getElem
def Z1f:=@if_true
def Z1g:=@List.append_nil
def Z1h:=@Go.Addr.add_lit
def Z1i:=@List.getElem?_map
def Z1j:=@List.take_succ_cons
def Z1k:=@List.flatMap_append
def Z1l:=@List.mem_of_mem_drop
def Z1m:=@List.mem_of_mem_take
def Z1n:=@List.length_nil
def Z1o:=@List.size_toArray
def Z1p:=@List.take_succ_eq_append_getElem
def Z1q:=@List.getElem?_append_right
def Z1r:=@List.drop_of_length_le
def Z1s:=@List.length_filter_le
def Z1t:=@Option.some.inj
def Z1u:=@List.mem_filter
def Z1v:=@List.nil_append
def Z1w:=@List.getElem?_eq_none
def Z1x:=@List.drop_zero
def Z1y:=@List.mem_cons_of_mem
def Z1z:=@and_true
def Z1A:=@List.take_append_of_le_length
def Z1B:=@Go.Calls.mono
def Z1C:=@Nat.min_eq_left
def Z1D:=@List.nodup_cons
def Z1E:=@Option.getD_some
def Z1F:=@List.not_mem_nil
def Z1G:=@List.length_pos_iff
def Z1H:=@Array.getElem?_eq_some_iff
def Z1I:=@Nat.zero_mul
def Z1J:=@List.ext_getElem?
def Z1K:=@Array.ext'
def Z1L:=@Bool.false_eq_true
def Z1M:=@List.getElem_cons_succ
def Z1N:=@List.length_set
def Z1O:=@List.map_nil
def Z1P:=@beq_eq_false_iff_ne
def Z1Q:=@List.getD_eq_getElem?_getD
def Z1R:=@Option.map_some
def Z1S:=@List.foldl_append
def Z1T:=@List.take_take
def Z1U:=@Go.heap_alloc_new
def Z1V:=@Bool.or_eq_true
def Z1W:=@List.mem_range
def Z1X:=@of_decide_eq_true
def Z1Y:=@List.mem_flatMap
def Z1Z:=@Nat.le_mul_of_pos_right
def Z2a:=@Option.bind_eq_some_iff
def Z2b:=@if_false
def Z2c:=@Go.run_firstCells_some
def Z2d:=@List.replicate_succ
def Z2e:=@List.map_congr_left
def Z2f:=@Go.setRow_other
def Z2g:=@Nat.le_of_eq
def Z2h:=@List.set_set
def Z2i:=@List.set_eq_take_append_cons_drop
def Z2j:=@Option.bind_some
def Z2k:=@List.filter_cons
def Z2l:=@List.drop_drop
def Z2m:=@List.take_zero
def Z2n:=@Nat.eq_of_beq_eq_true
def Z2o:=@eq_true
def Z2p:=@Bool.and_left_comm
def Z2q:=@List.mem_or_eq_of_mem_set
def Z2r:=@List.eraseIdx_eq_take_drop_succ
def Z2s:=@List.mem_iff_getElem
def Z2t:=@List.foldl_cons
def Z2u:=@Bool.eq_iff_iff
def Z2v:=@List.mem_append_left
def Z2w:=@List.cons.injEq
def Z2x:=@Go.run_storeCells_at
def Z2y:=@List.nodup_append
def Z2z:=@Nat.add_assoc
def Z2A:=@Go.World.block_lt_of_cell?
def Z2B:=@true_and
def Z2C:=@List.drop_take
def Z2D:=@beq_self_eq_true
def Z2E:=@Go.setRow_heap
def Z2F:=@List.getElem?_set_self
def Z2G:=@List.getElem_cons_zero
def Z2H:=@Go.grownCap_le_maxLen
def Z2I:=@List.all_cons
def Z2J:=@Bool.false_or
def Z2K:=@or_false
def Z2L:=@Bool.and_self
def Z2M:=@List.getElem?_set
def Z2N:=@Bool.not_eq_true'
def Z2O:=@List.pairwise_iff_getElem
def Z2P:=@Go.cell_of_row
def Z2Q:=@Bool.and_assoc
def Z2R:=@List.any_eq_true
def Z2S:=@Go.Value.pointer.injEq
def Z2T:=@Bool.and_comm
def Z2U:=@List.filter_append
def Z2V:=@Bool.and_false
def Z2W:=@List.eq_nil_or_concat
def Z2X:=@List.mem_append_right
def Z2Y:=@Array.getElem?_toList
def Z2Z:=@List.Perm.append_left
def Z3a:=@List.take_length
def Z3b:=@List.any_cons
def Z3c:=@List.exists_cons_of_ne_nil
def Z3d:=@List.map_take
def Z3e:=@Classical.byContradiction
def Z3f:=@List.mem_cons_self
def Z3g:=@List.mem_replicate
def Z3h:=@Nat.succ_mul
def Z3i:=@beq_iff_eq
def Z3j:=@List.mapM_cons
def Z3k:=@Option.none_or
def Z3l:=@Int.not_lt
def Z3m:=@List.getElem?_cons_zero
def Z3n:=@List.not_all_eq_any_not
def Z3o:=@List.getLast?_singleton
def Z3p:=@Array.size_append
def Z3q:=@Bool.eq_false_iff
def Z3r:=@Int.toNat_natCast
def Z3s:=@Go.grownCap_ge
def Z3t:=@Nat.mul_one
def Z3u:=@Nat.zero_le
def Z3v:=@List.filter_eq_nil_iff
def Z3w:=@Go.Addr.mk.injEq
def Z3x:=@Bool.not_true
def Z3y:=@List.mem_flatten
def Z3z:=@Array.toList_map
def Z3A:=@List.getElem_map
def Z3B:=@eq_false
def Z3C:=@List.set_getElem_self
def Z3D:=@List.set_append_right
def Z3E:=@List.perm_append_comm
def Z3F:=@List.mem_of_getElem?
def Z3G:=@Go.run_newObj
def Z3H:=@getElem!_pos
def Z3I:=@Bool.or_eq_false_iff
def Z3J:=@List.pairwise_append
def Z3K:=@List.length_flatten
def Z3L:=@Go.size_zeroCells
def Z3M:=@Bool.not_false
def Z3N:=@Array.getElem?_setIfInBounds
def Z3O:=@List.dropLast_concat_getLast
def Z3P:=@Go.run_loadCells_list
def Z3Q:=@List.set_cons_zero
def Z3R:=@List.set_cons_succ
def Z3S:=@Array.getD_eq_getD_getElem?
def Z3T:=@Array.ext_getElem?
def Z3U:=@Array.getElem?_append_left
def Z3V:=@Bool.or_false
def Z3W:=@Int.fdiv_eq_ediv_of_nonneg
def Z3X:=@Go.DataW.trod_lt
def Z3Y:=@not_true_eq_false
def Z3Z:=@List.pairwise_map
def Z4a:=@List.Sublist.refl
def Z4b:=@Array.mapM_eq_mapM_toList
def Z4c:=@List.mem_of_find?_eq_some
def Z4d:=@Nat.lt_or_ge
def Z4e:=@List.map_toArray
def Z4f:=@Array.all_toList
def Z4g:=@Nat.le_of_lt
def Z4h:=@List.drop_append
def Z4i:=@List.ext_getElem
def Z4j:=@Option.isSome_iff_exists
def Z4k:=@List.take_append
def Z4l:=@Go.Result.ok.injEq
def Z4m:=@Bool.decide_and
def Z4n:=@Go.World.var?_cell
def Z4o:=@Nat.min_def
def Z4p:=@List.take_left
def Z4q:=@Go.wp_mono
def Z4r:=@not_or
def Z4s:=@Option.some_or
def Z4t:=@Array.getElem?_modify
def Z4u:=@List.concat_eq_append
def Z4v:=@List.getElem!_toArray
def Z4w:=@Array.getElem?_mapIdx
def Z4x:=@Nat.mul_le_mul
def Z4y:=@List.eraseIdx_sublist
def Z4z:=@List.sizeOf_lt_of_mem
def Z4A:=@Array.getElem?_append
def Z4B:=@List.map_drop
def Z4C:=@Nat.sub_zero
def Z4D:=@Nat.sub_self
def Z4E:=@Nat.add_comm
end
namespace Go.Abs
def Q0{P:Prop}(h:P:=by omega):P:=h
def Q1{P:Prop}(h:P:=by simp):P:=h
def Q3{P:Prop}(h:P:=by clear w1;omega):P:=h
def ex{α:Sort _}(a:α):∃b,b=a:=⟨a,rfl⟩
inductive Own where
 |no
 |full
 |fam (f:Nat)
inductive AV where
 |poison
 |val (v:Value)
 |ptr (b off:Nat)
 |cptr (cells:List AV)
 |list (sz:Nat) (rows:List (List AV)) (own:Own)
 /-- a window,from row lo on,of the slice that the array f had at its time g -/
 |vref (f g sz lo len:Nat)
 /-- a pointer to a cell of it -/
 |vptr (f g off:Nat)
 |mapr (b:Nat)
 |func (fn:Fn) (first captured:List AV)
 |iface (t:TypeId) (v:AV)
 |agg (cells:List AV)
 |tuple (vs:List AV)
structure A0p where
 n:Nat
 blk:Nat->Nat
 st:Nat->Nat->Option Value
 keep:Nat->Option Obj
 hdr:Nat->Nat->Option Addr×Nat
 top:Nat->Nat
structure A0p.le (G G':A0p):Prop where
 n:G.n<=G'.n
 blk:∀b,b<G.n->G'.blk b=G.blk b
 st:∀b i v,G.st b i=some v->G'.st b i=some v
 keep:∀b o,G.keep b=some o->G'.keep b=some o
 top:∀f,f<G.n->G.top f<=G'.top f
 hdr:∀f,f<G.n->∀k,k<=G.top f->G'.hdr f k=G.hdr f k
def A0p.le.refl(G:A0p):G.le G:=⟨Z0j _,λ_ _=>rfl,λ_ _ _ h=>h,λ_ _ h=>h,λ_ _=>Z0j _,λ_ _ _ _=>rfl⟩
def A0p.le.trans{A B C:A0p}(h:A.le B)(k:B.le C):A.le C:=
 ⟨Z0L h.n k.n,λb hb=>(k.blk b (Z0Z hb h.n)).trans (h.blk b hb),λb i v hv=>k.st b i v (h.st b i v hv),
  λb o ho=>k.keep b o (h.keep b o ho),λf hf=>Z0L (h.top f hf) (k.top f (Z0Z hf h.n)),
  λf hf j hj=>(k.hdr f (Z0Z hf h.n) j (Z0L hj (h.top f hf))).trans (h.hdr f hf j hj)⟩
def A5G(G:A0p)(own:Own)(len:Nat)(base:Option Addr)(cap:Nat):Prop:=
 match own with
 |.no=>True
 |.full=>cap=len
 |.fam f=>f<G.n/\len<=G.top f/\G.hdr f len=(base,cap)
def A5G.mono{G G'}(h:G.le G'){own}{len}{base}{cap}(k:A5G G own len base cap):A5G G' own len base cap:=by
 cases own with
 |no=>trivial
 |full=>exact k
 |fam f=>obtain⟨h1,h2,h3⟩:=k;exact⟨Z0Z h1 h.n,Z0L h2 (h.top f h1),(h.hdr f h1 _ h2).trans h3⟩
mutual
def Rep(G:A0p):AV->Value->Prop
 |.poison,_=>True
 |.val v,x=>x=v
 |.ptr b off,x=>b<G.n/\x=.pointer (some ⟨G.blk b,off,none⟩)
 |.cptr cs,x=>∃b i,x=.pointer (some ⟨b,i,none⟩)/\A0Q G cs b i
 |.list sz rows own,x=>∃base cap,x=.slice base rows.length cap/\rows.length<=cap/\cap<=maxLen/\(match base with|none=>rows=[]/\cap=0|some a=>(rows≠[]->a.spot=none)/\A0C G sz rows a.block a.off)/\A5G G own rows.length base cap
 |.vref f g sz lo len,x=>f<G.n/\g<=G.top f/\∃a a' cap,G.hdr f g=(some a,cap)/\a.spot=none/\a'.spot=none/\x=.slice (some a') len (cap-lo)/\lo+len<=cap/\cap<=maxLen/\(lo<cap->a'=⟨a.block,a.off+lo*sz,none⟩)
 |.vptr f g off,x=>f<G.n/\g<=G.top f/\∃a cap,G.hdr f g=(some a,cap)/\x=.pointer (some ⟨a.block,a.off+off,none⟩)
 |.mapr b,x=>b<G.n/\x=.map (some (G.blk b))
 |.func fn f c,x=>∃fs cs:Array Value,x=.func fn fs cs/\A0s G f fs.toList/\A0s G c cs.toList
 |.iface t v,x=>∃y,x=.iface t y/\Rep G v y
 |.agg cs,x=>∃ys:Array Value,x=.agg ys/\A0s G cs ys.toList/\∀y∈ys.toList,y.oneCell'=true
 |.tuple cs,x=>∃ys:Array Value,x=.tuple ys/\A0s G cs ys.toList
def A0s(G:A0p):List AV->List Value->Prop
 |[],ys=>ys=[]
 |c::cs,ys=>∃y ys',ys=y::ys'/\Rep G c y/\A0s G cs ys'
def A0Q(G:A0p):List AV->Nat->Nat->Prop
 |[],_,_=>True
 |c::cs,b,i=>(∃v,G.st b i=some v/\v.oneCell'=true/\Rep G c v)/\A0Q G cs b (i+1)
def A0C(G:A0p)(sz:Nat):List (List AV)->Nat->Nat->Prop
 |[],_,_=>True
 |r::rs,b,i=>(r.length=sz/\A0Q G r b i)/\A0C G sz rs b (i+sz)
end
mutual
def Rep.mono{G G'}(h:G.le G'):∀(a:AV) (x:Value),Rep G a x->Rep G' a x
 |.poison,_,_=>by simp[Rep]
 |.val v,x,k=>by simpa[Rep]using k
 |.ptr b off,x,k=>by simp only[Rep]at k|-;exact⟨Z0Z k.1 h.n,by rw[h.blk b k.1];exact k.2⟩
 |.cptr cs,x,k=>by simp only[Rep]at k|-;obtain⟨b,i,hx,hm⟩:=k;exact⟨b,i,hx,A0Q.mono h cs b i hm⟩
 |.list sz rows own,x,k=>by
  simp only[Rep]at k|-;obtain⟨base,cap,hx,hl,hm,hb,ho⟩:=k;refine⟨base,cap,hx,hl,hm,?_,ho.mono h⟩;cases base with
  |none=>exact hb
  |some a=>exact⟨hb.1,A0C.mono h sz rows _ _ hb.2⟩
 |.vref f g sz lo len,x,k=>by simp only[Rep]at k|-;obtain⟨h1,h2,a,a',cap,h3,h4⟩:=k;exact⟨Z0Z h1 h.n,Z0L h2 (h.top f h1),a,a',cap,(h.hdr f h1 g h2).trans h3,h4⟩
 |.vptr f g off,x,k=>by simp only[Rep]at k|-;obtain⟨h1,h2,a,cap,h3,h4⟩:=k;exact⟨Z0Z h1 h.n,Z0L h2 (h.top f h1),a,cap,(h.hdr f h1 g h2).trans h3,h4⟩
 |.mapr b,x,k=>by simp only[Rep]at k|-;exact⟨Z0Z k.1 h.n,by rw[h.blk b k.1];exact k.2⟩
 |.func fn f c,x,k=>by simp only[Rep]at k|-;obtain⟨fs,cs,hx,h1,h2⟩:=k;exact⟨fs,cs,hx,A0s.mono h f _ h1,A0s.mono h c _ h2⟩
 |.iface t v,x,k=>by simp only[Rep]at k|-;obtain⟨y,hx,h1⟩:=k;exact⟨y,hx,Rep.mono h v y h1⟩
 |.agg cs,x,k=>by simp only[Rep]at k|-;obtain⟨ys,hx,h1,h2⟩:=k;exact⟨ys,hx,A0s.mono h cs _ h1,h2⟩
 |.tuple cs,x,k=>by simp only[Rep]at k|-;obtain⟨ys,hx,h1⟩:=k;exact⟨ys,hx,A0s.mono h cs _ h1⟩
def A0s.mono{G G'}(h:G.le G'):∀(cs:List AV) (ys:List Value),A0s G cs ys->A0s G' cs ys
 |[],ys,k=>by simpa[A0s]using k
 |c::cs,ys,k=>by simp only[A0s]at k|-;obtain⟨y,a,hy,h1,h2⟩:=k;exact⟨y,a,hy,Rep.mono h c y h1,A0s.mono h cs a h2⟩
def A0Q.mono{G G'}(h:G.le G'):∀(cs:List AV) (b i:Nat),A0Q G cs b i->A0Q G' cs b i
 |[],_,_,_=>by simp[A0Q]
 |c::cs,b,i,k=>by simp only[A0Q]at k|-;obtain⟨⟨v,hv,ho,h1⟩,h2⟩:=k;exact⟨⟨v,h.st b i v hv,ho,Rep.mono h c v h1⟩,A0Q.mono h cs b (i+1) h2⟩
def A0C.mono{G G'}(h:G.le G')(sz:Nat):∀(rs:List (List AV)) (b i:Nat),A0C G sz rs b i->A0C G' sz rs b i
 |[],_,_,_=>by simp[A0C]
 |r::rs,b,i,k=>by simp only[A0C]at k|-;exact⟨⟨k.1.1,A0Q.mono h r b i k.1.2⟩,A0C.mono h sz rs b (i+sz) k.2⟩
end
def A0s.length{G}:∀{cs:List AV} {ys:List Value},A0s G cs ys->ys.length=cs.length
 |[],ys,k=>by simp only[A0s]at k;subst k;rfl
 |c::cs,ys,k=>by simp only[A0s]at k;obtain⟨y,a,rfl,_,h2⟩:=k;simp[A0s.length h2]
def A0s.get{G}:∀{cs:List AV} {ys:List Value},A0s G cs ys->∀{i:Nat} {c:AV},cs[i]?=some c->∃y,ys[i]?=some y/\Rep G c y
 |[],_,_,i,c,hc=>by simp at hc
 |c::cs,ys,k,i,c',hc=>by
  simp only[A0s]at k;obtain⟨y,a,rfl,h1,h2⟩:=k;cases i with
  |zero=>simp at hc;subst hc;exact⟨y,rfl,h1⟩
  |succ i=>simpa using A0s.get h2 (i:=i) (by simpa using hc)
def A0s.append{G}:∀{cs ds:List AV} {ys zs:List Value},A0s G cs ys->A0s G ds zs->A0s G (cs++ds) (ys++zs)
 |[],ds,ys,zs,k,h=>by simp only[A0s]at k;subst k;exact h
 |c::cs,ds,ys,zs,k,h=>by simp only[A0s]at k;obtain⟨y,a,rfl,h1,h2⟩:=k;simp only[Z0O,A0s];exact⟨_,_,rfl,h1,A0s.append h2 h⟩
def A0s.take{G}:∀{cs:List AV} {ys:List Value},A0s G cs ys->∀n,A0s G (cs.take n) (ys.take n)
 |[],ys,k,n=>by simp only[A0s]at k;subst k;simp[A0s]
 |c::cs,ys,k,n=>by
  simp only[A0s]at k;obtain⟨y,a,rfl,h1,h2⟩:=k;cases n with
  |zero=>simp[A0s]
  |succ n=>simp only[Z1j,A0s];exact⟨_,_,rfl,h1,A0s.take h2 n⟩
def A0s.drop{G}:∀{cs:List AV} {ys:List Value},A0s G cs ys->∀n,A0s G (cs.drop n) (ys.drop n)
 |[],ys,k,n=>by simp only[A0s]at k;subst k;simp[A0s]
 |c::cs,ys,k,n=>by
  cases n with
  |zero=>simpa using k
  |succ n=>simp only[A0s]at k;obtain⟨y,a,rfl,h1,h2⟩:=k;simpa using A0s.drop h2 n
def A0Q.get{G}:∀{cs:List AV} {b i:Nat},A0Q G cs b i->∀{j:Nat} {c:AV},cs[j]?=some c->∃v,G.st b (i+j)=some v/\v.oneCell'=true/\Rep G c v
 |[],_,_,_,j,c,hc=>by simp at hc
 |c::cs,b,i,k,j,c',hc=>by
  simp only[A0Q]at k;obtain⟨⟨v,hv⟩,h2⟩:=k;cases j with
  |zero=>simp at hc;subst hc;exact⟨v,hv⟩
  |succ j=>obtain⟨v',h⟩:=A0Q.get h2 (j:=j) (by simpa using hc);exact⟨v',by rw[show i+(j+1)=i+1+j from by omega];exact h.1,h.2⟩
def A0Q.drop{G}:∀{cs:List AV} {b i:Nat},A0Q G cs b i->∀n,A0Q G (cs.drop n) b (i+n)
 |[],_,_,_,n=>by simp[A0Q]
 |c::cs,b,i,k,n=>by
  cases n with
  |zero=>simpa using k
  |succ n=>simp only[A0Q]at k;rw[show i+(n+1)=i+1+n from by omega];simpa using A0Q.drop k.2 n
def A0Q.take{G}:∀{cs:List AV} {b i:Nat},A0Q G cs b i->∀n,A0Q G (cs.take n) b i
 |[],_,_,_,n=>by simp[A0Q]
 |c::cs,b,i,k,n=>by
  cases n with
  |zero=>simp[A0Q]
  |succ n=>simp only[A0Q,Z1j]at k|-;exact⟨k.1,A0Q.take k.2 n⟩
def A0Q.append{G}:∀{cs ds:List AV} {b i:Nat},A0Q G cs b i->A0Q G ds b (i+cs.length)->A0Q G (cs++ds) b i
 |[],_,_,_,_,h=>by simpa using h
 |c::cs,ds,b,i,k,h=>by simp only[A0Q,Z0O]at k|-;exact⟨k.1,A0Q.append k.2 (by rw[show i+1+cs.length=i+(c::cs).length from by simp;omega];exact h)⟩
def A0Q.vals{G}:∀{cs:List AV} {b i:Nat},A0Q G cs b i->∃vs:List Value,A0s G cs vs/\vs.length=cs.length/\(∀v∈vs,v.oneCell'=true)/\∀j v,vs[j]?=some v->G.st b (i+j)=some v
 |[],_,_,_=>⟨[],by simp[A0s],rfl,Q1,Q1⟩
 |c::cs,b,i,k=>by
  simp only[A0Q]at k;obtain⟨⟨v,hv,ho,h1⟩,h2⟩:=k;obtain⟨vs,h3,h4,h5,h6⟩:=A0Q.vals h2;refine⟨v::vs,by simp only[A0s];exact⟨v,vs,rfl,h1,h3⟩,by simp[h4],by simpa[ho]using h5,?_⟩;intro j u hu;cases j with
  |zero=>simp at hu;subst hu;exact hv
  |succ j=>rw[show i+(j+1)=i+1+j from by omega];exact h6 j u (by simpa using hu)
def A0Q.mk{G}:∀{cs:List AV} {vs:List Value} {b i:Nat},A0s G cs vs->(∀v∈vs,v.oneCell'=true)->(∀j v,vs[j]?=some v->G.st b (i+j)=some v)->A0Q G cs b i
 |[],_,_,_,_,_,_=>by simp[A0Q]
 |c::cs,vs,b,i,k,ho,h=>by simp only[A0s]at k;obtain⟨y,a,rfl,h1,h2⟩:=k;simp only[A0Q];exact⟨⟨y,by simpa using h 0 y rfl,ho y Q1,h1⟩,A0Q.mk h2 (λv hv=>ho v (by simp[hv])) (λj v hv=>by rw[show i+1+j=i+(j+1)from by omega];exact h (j+1) v (by simpa using hv))⟩
def A0C.row{G}{sz}:∀{rs:List (List AV)} {b i:Nat},A0C G sz rs b i->∀{j:Nat} {r:List AV},rs[j]?=some r->r.length=sz/\A0Q G r b (i+j*sz)
 |[],_,_,_,j,r,hr=>by simp at hr
 |r::rs,b,i,k,j,r',hr=>by
  simp only[A0C]at k;cases j with
  |zero=>simp at hr;subst hr;simpa using k.1
  |succ j=>have:=A0C.row k.2 (j:=j) (by simpa using hr);refine⟨this.1,?_⟩;rw[show i+(j+1)*sz=i+sz+j*sz from by rw[Z0Q];omega];exact this.2
def A0C.flat{G}{sz}:∀{rs:List (List AV)} {b i:Nat},A0C G sz rs b i->A0Q G rs.flatten b i/\rs.flatten.length=rs.length*sz
 |[],_,_,_=>by simp[A0Q]
 |r::rs,b,i,k=>by
  simp only[A0C]at k;have h:=A0C.flat k.2;refine⟨?_,?_⟩
  .simp only[Z1a];exact A0Q.append k.1.2 (by rw[k.1.1];exact h.1)
  .simp only[Z1a,Z0k,Z0q,h.2,k.1.1,Z0Q];omega
def A0C.mk{G}{sz}:∀{rs:List (List AV)} {b i:Nat},(∀r∈rs,r.length=sz)->A0Q G rs.flatten b i->A0C G sz rs b i
 |[],_,_,_,_=>by simp[A0C]
 |r::rs,b,i,hs,k=>by simp only[A0C];have hr:r.length=sz:=hs r Q1;have h1:=A0Q.take k r.length;have h2:=A0Q.drop k r.length;simp only[Z1a,Z4p,List.drop_left]at h1 h2;exact⟨⟨hr,h1⟩,A0C.mk (λx hx=>hs x (by simp[hx])) (by rw[<-hr];exact h2)⟩
def A0C.sizes{G}{sz}{rs}{b i}(k:A0C G sz rs b i):∀r∈rs,r.length=sz:=by intro r hr;obtain⟨j,hj,rfl⟩:=Z2s.1 hr;exact(A0C.row k (j:=j) (by simp[hj])).1
def A0C.take{G}{sz}:∀{rs:List (List AV)} {b i:Nat},A0C G sz rs b i->∀n,A0C G sz (rs.take n) b i
 |[],_,_,_,n=>by simp[A0C]
 |r::rs,b,i,k,n=>by
  cases n with
  |zero=>simp[A0C]
  |succ n=>simp only[A0C,Z1j]at k|-;exact⟨k.1,A0C.take k.2 n⟩
def A0C.drop{G}{sz}:∀{rs:List (List AV)} {b i:Nat},A0C G sz rs b i->∀n,A0C G sz (rs.drop n) b (i+n*sz)
 |[],_,_,_,n=>by simp[A0C]
 |r::rs,b,i,k,n=>by
  cases n with
  |zero=>simpa using k
  |succ n=>simp only[A0C]at k;rw[show i+(n+1)*sz=i+sz+n*sz from by rw[Z0Q];omega];simpa using A0C.drop k.2 n
inductive A0l where
 |gone
 /-- a variable,of type t -/
 |cells (t:TypeId) (cs:List AV)
 |fam (m sz:Nat)
 /-- an array that may be written:its cells,its time,and which of its slices (by time and length) still read as its first cells -/
 |vec (e:TypeId) (sz:Nat) (cs:List AV) (g:Nat) (hist:List (Nat×Nat))
 /-- a map:keys,values,ages -/
 |map (es:List (AV×AV×Nat)) (clock:Nat)
 |siter (s:ByteArray) (pos:Nat)
 |miter (m:Option Nat) (since:Nat) (A3l:List Nat) (stepped:Nat)
abbrev Mem:=List A0l
abbrev Env:=Nat->AV
def A2D(G:A0p)(k:Nat)(o:A0l)(b:Nat):Prop:=match o with
 |.gone=>False
 |.fam m _=>m<(G.hdr k m).2/\∃a,(G.hdr k m).1=some a/\a.block=b
 |.vec _ _ _ _ hist=>∃h n a,(h,n)∈hist/\(G.hdr k h).1=some a/\a.block=b
 |_=>b=G.blk k
def D7A(G:A0p)(w:World)(k:Nat)(t:TypeId)(sz:Nat)(cs:List AV)(h n:Nat):Prop:=h<=G.top k/\n*sz<=cs.length/\∃b o cap vs,G.hdr k h=(some ⟨b,o,none⟩,cap)/\n<=cap/\cap<=maxLen/\w.heap[b]?=some (.cells vs t (0,0))/\o+cap*sz<=vs.size/\A0s G (cs.take (n*sz)) ((vs.toList.drop o).take (n*sz))/\(∀v∈(vs.toList.drop o).take (n*sz),v.oneCell'=true)/\(∀i,G.st b i=none)/\G.keep b=none
def B3x(G:A0p)(e:AV×AV×Nat)(x:MapEntry):Prop:=Rep G e.1 x.key/\Rep G e.2.1 x.val/\x.born=e.2.2
inductive A1q (G:A0p):List (AV×AV×Nat)->List MapEntry->Prop
 |nil:A1q G [] []
 |cons {e x es xs}:B3x G e x->A1q G es xs->A1q G (e::es) (x::xs)
def A1q.mono{G G'}(h:G.le G'){es}{xs}(k:A1q G es xs):A1q G' es xs:=by
 induction k with
 |nil=>exact .nil
 |cons h1 _ ih=>exact .cons ⟨Rep.mono h _ _ h1.1,Rep.mono h _ _ h1.2.1,h1.2.2⟩ ih
def A5j(G:A0p)(w:World)(k:Nat):A0l->Prop
 |.gone=>True
 |.cells t cs=>∃(vs:Array Value),w.heap[G.blk k]?=some (.cells vs t (0,0))/\A0s G cs vs.toList/\(∀v∈vs.toList,v.oneCell'=true)/\(∀i,G.st (G.blk k) i=none)/\G.keep (G.blk k)=none
 |.fam m sz=>G.top k=m/\m<=(G.hdr k m).2/\(G.hdr k m).2<=maxLen/\(m<(G.hdr k m).2->∃(g:Nat) (vs:Array Value) (t:TypeId),(G.hdr k m).1=some ⟨g,0,none⟩/\w.heap[g]?=some (.cells vs t (0,0))/\(G.hdr k m).2*sz<=vs.size/\(∀i,m*sz<=i->G.st g i=none)/\G.keep g=none)
 |.vec e sz cs g hist=>G.top k=g/\(∀h n,(h,n)∈hist->D7A G w k e sz cs h n)/\(∀h n h' n' a a' c c',(h,n)∈hist->(h',n')∈hist->G.hdr k h=(some a,c)->G.hdr k h'=(some a',c')->a.block=a'.block->a=a')
 |.map es clock=>∃xs:Array MapEntry,w.heap[G.blk k]?=some (.map xs clock)/\A1q G es xs.toList/\G.keep (G.blk k)=none
 |.siter s pos=>w.heap[G.blk k]?=some (.stringIter s pos)/\G.keep (G.blk k)=none
 |.miter m since A3l stepped=>w.heap[G.blk k]?=some (.mapIter (m.map G.blk) since A3l.toArray stepped)/\(∀b∈m,b<G.n)/\G.keep (G.blk k)=none
structure Ctx where
 P:Program
 gl:Nat->AV
 /-- variables whose whole memory is known -/
 tab:Nat->Option (Array Value)
 /-- types of slices that are made as data,whatever the hint says -/
 data:TypeId->Bool
structure Inv (C:Ctx) (G:A0p) (M:Mem) (w:World):Prop where
 n:G.n=M.length
 st:∀b i v,G.st b i=some v->w.cell? ⟨b,i,none⟩=some v
 keep:∀b o,G.keep b=some o->w.heap[b]?=some o
 obj:∀k o,M[k]?=some o->A5j G w k o
 apart:∀j k x y b,M[j]?=some x->M[k]?=some y->A2D G j x b->A2D G k y b->j=k
 gl:∀g,Rep G (C.gl g) (.pointer (some ⟨g,0,none⟩))
 tab:∀g cs,C.tab g=some cs->∃t f,G.keep g=some (.cells cs t f)
def Inv.tab_le{C}{G G'}{M}{w}(hi:Inv C G M w)(a:G.le G'):∀g cs,C.tab g=some cs->∃t f,G'.keep g=some (.cells cs t f):=λg cs h=>by obtain⟨t,f,k⟩:=hi.tab g cs h;exact⟨t,f,a.keep _ _ k⟩
structure Ext (w w':World):Prop where
 os:w'.os=w.os
 tape:w'.tape=w.tape
 output:w'.output=w.output
 size:w.heap.size<=w'.heap.size
def Ext.refl(w:World):Ext w w:=⟨rfl,rfl,rfl,Z0j _⟩
def Ext.trans{a b c}(h:Ext a b)(k:Ext b c):Ext a c:=⟨k.os.trans h.os,k.tape.trans h.tape,k.output.trans h.output,Z0L h.size k.size⟩
def A0N{α:Type}{l:List α}{k:Nat}{x:α}(h:l[k]?=some x):k<l.length:=by
 rcases Z4d k l.length with h'|h'
 .exact h'
 .simp[Z1w h']at h
def A4q{w:World}{b:Nat}{o:Obj}(h:w.heap[b]?=some o):b<w.heap.size:=(Z1H.1 h).1
def A5j.owns_lt{G:A0p}{w:World}{k:Nat}{o:A0l}(h:A5j G w k o){b:Nat}(ho:A2D G k o b):b<w.heap.size:=by
 cases o with
 |gone=>exact ho.elim
 |cells t cs=>obtain⟨vs,h1,_⟩:=h;simp only[A2D]at ho;subst ho;exact A4q h1
 |fam m sz=>obtain⟨c,a,ha,rfl⟩:=ho;obtain⟨g,vs,t,q1,q2,_⟩:=h.2.2.2 c;rw[q1]at ha;simp only[Z0b]at ha;subst ha;exact A4q q2
 |vec e sz rows g hist=>obtain⟨h',n,a,hm,ha,rfl⟩:=ho;obtain⟨_,_,b,o,cap,vs,q1,_,_,q2,_⟩:=h.2.1 h' n hm;rw[q1]at ha;simp only[Z0b]at ha;subst ha;exact A4q q2
 |map es clock=>obtain⟨xs,h1,_⟩:=h;simp only[A2D]at ho;subst ho;exact A4q h1
 |siter s pos=>simp only[A2D]at ho;subst ho;exact A4q h.1
 |miter m since A3l stepped=>simp only[A2D]at ho;subst ho;exact A4q h.1
def A5j.keeps{G G'}{w w'}{k}{o}(h:A5j G w k o)(j:G.le G')(hk:k<G.n)(a:G'.blk k=G.blk k)(d:G'.hdr k=G.hdr k/\G'.top k=G.top k) (p:∀b,A2D G k o b->∀i v,G'.st b i=some v->G.st b i=some v)(c:∀b,G'.keep b=G.keep b)(hw:∀b,A2D G k o b->w'.heap[b]?=w.heap[b]?):A5j G' w' k o:=by
 have B6g:∀b,A2D G k o b->∀i,G.st b i=none->G'.st b i=none:=by
  intro b hb i hn;cases hs:G'.st b i with
  |none=>rfl
  |some v=>rw[p b hb i v hs]at hn;simp at hn
 cases o with
 |gone=>trivial
 |cells t cs=>
  obtain⟨vs,h1,h2,h3,h4,h5⟩:=h
  refine⟨vs,by rw[a,hw _ rfl];exact h1,A0s.mono j _ _ h2,h3,λi=>?_,by rw[a,c];exact h5⟩
  rw[a];exact B6g _ rfl i (h4 i)
 |fam m sz=>
  obtain⟨h0,h1,q,h2⟩:=h
  simp only[A5j,d.1,d.2]
  refine⟨h0,h1,q,λl=>?_⟩
  obtain⟨g,vs,t,q1,q2,q3,q4,q5⟩:=h2 l
  have f:A2D G k (.fam m sz) g:=⟨l,_,q1,rfl⟩
  exact⟨g,vs,t,q1,by rw[hw _ f];exact q2,q3,λi hi'=>B6g _ f i (q4 i hi'),by rw[c];exact q5⟩
 |vec e sz rows g hist=>
  obtain⟨h0,h2,h3⟩:=h
  simp only[A5j,d.1,d.2]
  refine⟨h0,λh' n hm=>?_,h3⟩
  obtain⟨p1,p2,b,o,cap,vs,q1,q2,q3,q4,q5,q6,q7,q8,q9⟩:=h2 h' n hm
  have f:A2D G k (.vec e sz rows g hist) b:=⟨h',n,_,hm,by rw[q1],rfl⟩
  exact⟨by rw[d.2];exact p1,p2,b,o,cap,vs,by rw[d.1];exact q1,q2,q3,by rw[hw _ f];exact q4,q5,A0s.mono j _ _ q6,q7,λi=>B6g _ f i (q8 i),by rw[c];exact q9⟩
 |map es clock=>
  obtain⟨xs,h1,h2,h3⟩:=h
  exact⟨xs,by rw[a,hw _ rfl];exact h1,h2.mono j,by rw[a,c];exact h3⟩
 |siter s pos=>exact⟨by rw[a,hw _ rfl];exact h.1,by rw[a,c];exact h.2⟩
 |miter m since A3l stepped=>
  refine⟨?_,λb hb=>Z0Z (h.2.1 b hb) j.n,by rw[a,c];exact h.2.2⟩
  have e:m.map G'.blk=m.map G.blk:=by
   cases m with
   |none=>rfl
   |some b=>simp[j.blk b (h.2.1 b rfl)]
  rw[a,hw _ rfl,h.1,e]
def Inv.step{C:Ctx}{G G':A0p}{M:Mem}{w w':World}(hi:Inv C G M w)(k gb:Nat){o o':A0l}(hk:M[k]?=some o)
 (a7:A2D G k o gb\/w.heap.size<=gb)(a0:G.le G')(hn:G'.n=G.n)(z:∀b,G'.blk b=G.blk b)
 (u:∀f,f≠k->G'.hdr f=G.hdr f/\G'.top f=G.top f)
 (a1:∀b i v,G'.st b i=some v->G.st b i=some v\/(b=gb/\w'.cell? ⟨b,i,none⟩=some v))(m:∀b,G'.keep b=G.keep b)
 (hw:∀b,b<w.heap.size->b≠gb->w'.heap[b]?=w.heap[b]?)(a3:∀i v,G.st gb i=some v->w'.cell? ⟨gb,i,none⟩=some v)(q:∀o,G.keep gb≠some o)
 (ho:A5j G' w' k o')(a2:∀b,A2D G' k o' b->b=gb\/A2D G k o b):Inv C G' (M.set k o') w':=by
 have t:=A0N hk
 have c:∀b i v,w.cell? ⟨b,i,none⟩=some v->b<w.heap.size:=λb i v h=>Z2A w ⟨b,i,none⟩ h
 have d:∀j x b,M[j]?=some x->j≠k->A2D G j x b->b≠gb:=by
  intro j x b hj a6 hb e;subst e;have p:=(hi.obj j x hj).owns_lt hb;rcases a7 with h|h
  .exact a6 (hi.apart j k x o b hj hk hb h)
  .omega
 have a:∀j x b,j≠k->(A2D G' j x b<->A2D G j x b):=by intro j x b hj;cases x<;>simp[A2D,z,(u j hj).1]
 refine⟨by rw[hn];simpa using hi.n,?_,?_,?_,?_,λg=>Rep.mono a0 _ _ (hi.gl g),hi.tab_le a0⟩
 .intro b i v hv;rcases a1 b i v hv with h|⟨_,h⟩
  .by_cases e:b=gb
   .subst e;exact a3 i v h
   .have:=hi.st b i v h;have p:=c b i v this;simpa[World.cell?,hw b p e]using this
  .exact h
 .intro b x hx;rw[m]at hx;have h0:=hi.keep b x hx;have p:b<w.heap.size:=(Z1H.1 h0).1;have a5:b≠gb:=by intro e;subst e;exact q x hx
  rw[hw b p a5];exact h0
 .intro j x hj;by_cases e:j=k
  .subst e;simp[t]at hj;subst hj;exact ho
  ·(have r:M[j]?=some x:=by have:k≠j:=λh=>e h.symm;simpa[Z2M,this]using hj);have hx:=hi.obj j x r;refine hx.keeps a0 (by rw[hi.n];exact A0N r) (z j) (u j e) (λb hb i v hv=>?_) m (λb hb=>hw b (hx.owns_lt hb) (d j x b r e hb));rcases a1 b i v hv with h|⟨h,_⟩
   .exact h
   .exact absurd h (d j x b r e hb)
 .intro i j x y b hx hy ox oy;have l:∀i x,i≠k->(M.set k o')[i]?=some x->M[i]?=some x:=by intro i x e hx;have:k≠i:=λh=>e h.symm;simpa[Z2M,this]using hx
  have key:∀i j x y,i=k->j≠k->(M.set k o')[i]?=some x->(M.set k o')[j]?=some y->A2D G' i x b->A2D G' j y b->False:=by
   intro i j x y e1 e2 hx hy ox oy;subst e1;simp[t]at hx;subst hx;have s:=l j y e2 hy;rw[a j y b e2]at oy;rcases a2 b ox with hb|hb
   .exact d j y b s e2 oy hb
   .exact e2 (hi.apart j i y o b s hk oy hb)
  by_cases e1:i=k<;>by_cases e2:j=k
  .rw[e1,e2]
  .exact(key i j x y e1 e2 hx hy ox oy).elim
  .exact(key j i y x e2 e1 hy hx oy ox).elim
  .have a4:=l i x e1 hx;have s:=l j y e2 hy;rw[a i x b e1]at ox;rw[a j y b e2]at oy;exact hi.apart i j x y b a4 s ox oy
def A0p.more(G:A0p)(nb:Nat)(h:Nat->Option Addr×Nat)(t:Nat):A0p:={G with n:=G.n+1,blk:=λb=>if b=G.n then nb else G.blk b,hdr:=λf=>if f=G.n then h else G.hdr f,top:=λf=>if f=G.n then t else G.top f}
def A0p.le_more(G:A0p)(nb:Nat)(h:Nat->Option Addr×Nat)(t:Nat):G.le (G.more nb h t):=⟨Nat.le_succ _,λb hb=>Z0d Q0,λ_ _ _ h=>h,λ_ _ h=>h,λf hf=>by simp only[A0p.more];rw[Z0d Q0];exact Z0j _,λf hf k _=>by simp only[A0p.more];rw[Z0d Q0]⟩
def Inv.more{C}{G}{M}{w}(hi:Inv C G M w)(nb:Nat)(h:Nat->Option Addr×Nat)(t:Nat):Inv C (G.more nb h t) (M++[.gone]) w:=by
 have c:=G.le_more nb h t;have a:∀j x,(M++[A0l.gone])[j]?=some x->(j<G.n/\M[j]?=some x)\/x=A0l.gone:=by
  intro j x h;by_cases hj:j<M.length
  .left;exact⟨by rw[hi.n];exact hj,by rwa[Z0n hj]at h⟩
  .right;rw[Z1q Q0]at h;have:=Z3F h;simpa using this
 have ob:∀k x b,k<G.n->(A2D (G.more nb h t) k x b<->A2D G k x b):=λk x b hk=>by have:k≠G.n:=Q0;cases x<;>simp[A2D,A0p.more,this]
 refine⟨by simpa[A0p.more]using hi.n,hi.st,hi.keep,?_,?_,λg=>Rep.mono c _ _ (hi.gl g),hi.tab_le c⟩
 .intro j x hj;rcases a j x hj with⟨e,h⟩|rfl
  .have d:j≠G.n:=Q0;exact(hi.obj j x h).keeps c e (by simp[A0p.more,d]) (by simp[A0p.more,d]) (λ_ _ _ _ h=>h) (λ_=>rfl) (λ_ _=>rfl)
  .trivial
 .intro i j x y b hx hy ox oy;rcases a i x hx with⟨hl,h⟩|rfl
  .rcases a j y hy with⟨f,h'⟩|rfl
   .rw[ob i x b hl]at ox;rw[ob j y b f]at oy;exact hi.apart i j x y b h h' ox oy
   .exact oy.elim
  .exact ox.elim
def Inv.world{C:Ctx}{G:A0p}{M:Mem}{w w':World}(hi:Inv C G M w)(h:w'.heap=w.heap):Inv C G M w':=by
 refine⟨hi.n,λb i v hv=>?_,λb o ho=>?_,λk o hk=>?_,hi.apart,hi.gl,hi.tab⟩
 .have:=hi.st b i v hv;simpa[World.cell?,h]using this
 .rw[h];exact hi.keep b o ho
 .exact(hi.obj k o hk).keeps (.refl _) (by rw[hi.n];exact A0N hk) rfl ⟨rfl,rfl⟩ (λ_ _ _ _ h=>h) (λ_=>rfl) (λ_ _=>by rw[h])
def Env.put(T:Env)(d:Option Nat)(v:AV):Env:=match d with
 |none=>T
 |some d=>λj=>if j=d then v else T j
@[simp] def Env.put_none(T:Env)(v:AV):T.put none v=T:=(rfl)
def Env.put_some(T:Env)(d:Nat)(v:AV)(j:Nat):T.put (some d) v j=if j=d then v else T j:=rfl
def Env.of(args:List AV):Env:=λi=>args.getD i .poison
structure A2Q (G:A0p) (N:Nat) (T:Env) (a:Act):Prop where
 defers:a.defers=[]
 size:a.tmps.size=N
 at_:∀i,i<N->Rep G (T i) (a.tmps.getD i undef)
def A2Q.mono{G G'}(h:G.le G'){N}{T}{a}(k:A2Q G N T a):A2Q G' N T a:=⟨k.defers,k.size,λi hi=>Rep.mono h _ _ (k.at_ i hi)⟩
def A2Q.put{G}{N}{T}{a}(k:A2Q G N T a){d}{v}{x}(hv:Rep G v x):A2Q G N (T.put d v) (a.put d x):=by
 cases d with
 |none=>exact k
 |some d=>
  refine⟨k.defers,by simpa[Act.put]using k.size,λi hi=>?_⟩;have h0:=k.at_ i hi;have hs:=k.size;rw[Env.put_some];by_cases e:i=d
  .subst e;rw[Z0c rfl];simpa[Act.put,Array.getD,hi,hs]using hv
  .rw[Z0d e];have b:d≠i:=λh=>e h.symm;simpa[Act.put,Array.getD,hi,hs,Array.getElem_setIfInBounds,b]using h0
def A2Q.of{G}{args}{vs}(n:Nat)(k:A0s G args vs):
 A2Q G (vs.length+n) (Env.of args) {tmps:=vs.toArray++Array.replicate n undef,defers:=[]}:=by
 refine⟨rfl,Q1,λi hi=>?_⟩
 by_cases h:i<args.length
 .obtain⟨y,hy,hr⟩:=k.get (i:=i) (c:=args[i]) (by simp[h]);have b:=k.length;have a:i<vs.length:=Q0;have e1:Env.of args i=args[i]:=by simp[Env.of,h]
  rw[e1];have:vs[i]=y:=by rw[Z0i a]at hy;exact Z1t hy
  simpa[Array.getD,a,Array.getElem_append,this,hi]using hr
 .have e1:Env.of args i=.poison:=by have:args.length<=i:=Q0;simp[Env.of,List.getD,Z1w this]
  rw[e1];simp[Rep]
def Env.ev(C:Ctx)(T:Env):Operand->AV
 |.tmp t=>T t
 |.const v=>.val v
 |.global g=>C.gl g
 |.func f=>.func (.func f) [] []
def Operand.inside(N:Nat):Operand->Bool
 |.tmp t=>decide (t<N)
 |_=>true
def D0R{C}{G}{M}{w}{N}{T}{a}(hi:Inv C G M w)(he:A2Q G N T a)(x:Operand)(hx:Operand.inside N x=true):Rep G (T.ev C x) (a.eval x):=by
 cases x with
 |tmp t=>simp only[Env.ev,Act.eval];exact he.at_ t (by simpa[Operand.inside]using hx)
 |const v=>simp[Env.ev,Act.eval,Rep]
 |global g=>exact hi.gl g
 |func f=>simp[Env.ev,Act.eval,Rep,A0s]
def B4u(C:Ctx)(N:Nat)(Q:Exit->Env->Mem->Prop)(G:A0p)(w:World):Exit->Act->World->Prop:=λe a' w'=>∃T' M' G',Q e T' M'/\G.le G'/\Inv C G' M' w'/\A2Q G' N T' a'/\Ext w w'
def B4u.mono{C}{N}{Q:Exit->Env->Mem->Prop}{G G'}{w w'}(h:G.le G')(k:Ext w w'){e}{a}{v} (l:B4u C N Q G' w' e a v):B4u C N Q G w e a v:=by
 obtain⟨T',M',b,h1,h2,h3,h4,h5⟩:=l
 exact⟨T',M',b,h1,h.trans h2,h3,h4,k.trans h5⟩
def B4u.weaken{C}{N}{Q Q':Exit->Env->Mem->Prop}{G}{w}(h:∀e T M,Q e T M->Q' e T M){e}{a}{v} (l:B4u C N Q G w e a v):B4u C N Q' G w e a v:=by
 obtain⟨T',M',b,h1,h2⟩:=l
 exact⟨T',M',b,h _ _ _ h1,h2⟩
def AWp(C:Ctx)(N:Nat)(c:Code)(Q:Exit->Env->Mem->Prop)(T:Env)(M:Mem):Prop:=∀G w a,Inv C G M w->A2Q G N T a->c.wp C.P (B4u C N Q G w) a w
def A0c(C:Ctx)(f:FuncId)(args:List AV)(M:Mem)(Q:AV->Mem->Prop):Prop:=∀G w (vs:List Value),Inv C G M w->A0s G args vs->Calls C.P f vs.toArray w λe w'=>∃r M' G' v,e=.returned v/\Q r M'/\G.le G'/\Inv C G' M' w'/\Rep G' r v/\Ext w w'
def A0c.mono{C}{f}{args}{M}{Q Q':AV->Mem->Prop}(h:A0c C f args M Q)(hq:∀r M',Q r M'->Q' r M'):A0c C f args M Q':=by intro G w vs hi hr;refine Z1B (h G w vs hi hr) ?_;rintro e w' ⟨r,M',G',v,rfl,h1,h2⟩;exact⟨r,M',G',v,rfl,hq _ _ h1,h2⟩
section control
variable {C:Ctx} {N:Nat} {Q Q':Exit->Env->Mem->Prop} {T:Env} {M:Mem}
def AWp.mono{c}(h:AWp C N c Q T M)(hq:∀e T M,Q e T M->Q' e T M):AWp C N c Q' T M:=λG w a hi he=>Z4q (h G w a hi he) λ_ _ _ l=>B4u.weaken hq l
def C3c(K:Env->Mem->Prop)(Q:Exit->Env->Mem->Prop):Exit->Env->Mem->Prop
 |.normal,T,M=>K T M
 |e,T,M=>Q e T M
def D1U(h:Q .normal T M):AWp C N .skip Q T M:=λG w a hi he=>wp_skip ⟨T,M,G,h,.refl _,hi,he,.refl _⟩
def C9v{l}(h:Q .normal T M):AWp C N (.label l) Q T M:=λG w a hi he=>wp_label ⟨T,M,G,h,.refl _,hi,he,.refl _⟩
def D2u{id}(h:Q (.exit id) T M):AWp C N (.exit id) Q T M:=λG w a hi he=>wp_exit ⟨T,M,G,h,.refl _,hi,he,.refl _⟩
def D4u(h:Q .ret T M):AWp C N .ret Q T M:=λG w a hi he=>wp_ret ⟨T,M,G,h,.refl _,hi,he,.refl _⟩
def D4K{x y}(h:AWp C N x (C3c (AWp C N y Q) Q) T M):AWp C N (.seq x y) Q T M:=by
 intro G w a hi he;refine wp_seq (Z4q (h G w a hi he) ?_);rintro e a' w' ⟨T',M',G',h1,h2,h3,h4,h5⟩;cases e with
 |normal=>exact Z4q (h1 G' w' a' h3 h4) λ_ _ _ l=>B4u.mono h2 h5 l
 |_=>exact⟨T',M',G',h1,h2,h3,h4,h5⟩
def A8Z(id:Nat)(Q:Exit->Env->Mem->Prop):Exit->Env->Mem->Prop
 |.exit id',T,M=>if id'=id then Q .normal T M else Q (.exit id') T M
 |e,T,M=>Q e T M
def D0g{id}{c}(h:AWp C N c (A8Z id Q) T M):AWp C N (.block id c) Q T M:=by
 intro G w a hi he;refine wp_block (Z4q (h G w a hi he) ?_);rintro e a' w' ⟨T',M',G',h1,h2⟩;cases e with
 |exit id'=>
  simp only[A8Z,Exit.inBlock]at h1|-;by_cases e:id'=id
  .rw[Z0c e]at h1|-;exact⟨T',M',G',h1,h2⟩
  .rw[Z0d e]at h1|-;exact⟨T',M',G',h1,h2⟩
 |_=>exact⟨T',M',G',h1,h2⟩
def D2o{c}{x y}{t}(b:Operand.inside N c=true)(hc:T.ev C c=.val (.bool t))(ht:t=true->AWp C N x Q T M)(hf:t=false->AWp C N y Q T M):AWp C N (.cond c x y) Q T M:=by intro G w a hi he;have h:=D0R hi he c b;rw[hc]at h;simp only[Rep]at h;exact wp_cond_split h (λe=>ht e G w a hi he) (λe=>hf e G w a hi he)
def D2H{c}(I:Env->Mem->Prop)(μ:Env->Mem->Nat)(h0:I T M) (f:∀T M,I T M->AWp C N c (C3c (λT' M'=>I T' M'/\μ T' M'<μ T M) Q) T M):AWp C N (.loop c) Q T M:=by
 intro G w a hi he b k cs
 have key:∀n T M G w a,μ T M=n->I T M->Inv C G M w->A2Q G N T a->
  ∃e a' w',B4u C N Q G w e a' w'/\Arrives C.P (lone (b.at a (.code c::.inLoop c::k)) cs w) b k cs e a' w':=by
  intro n
  induction n using Nat.strongRecOn with
  |_ n ih=>
   intro T M G w a hn hI hi he
   obtain⟨e,a₁,w₁,hq,d⟩:=f T M hI G w a hi he b (.inLoop c::k) cs
   obtain⟨T',M',G',h1,h2,h3,h4,h5⟩:=hq
   cases e with
   |normal=>
    obtain⟨m,j⟩:=h1
    obtain⟨e₂,a₂,w₂,i,g⟩:=ih (μ T' M') (hn▸j) T' M' G' w₁ a₁ rfl m h3 h4
    exact⟨e₂,a₂,w₂,B4u.mono h2 h5 i,.of_steps (Steps.trans d (.one step_inLoop)) g⟩
   |exit id=>exact⟨_,a₁,w₁,⟨T',M',G',h1,h2,h3,h4,h5⟩,.pass (x:=.inLoop c) rfl (λ_ _=>.inl Q1) d⟩
   |goto l=>exact⟨_,a₁,w₁,⟨T',M',G',h1,h2,h3,h4,h5⟩,.pass (x:=.inLoop c) rfl (λ_ _=>.inl Q1) d⟩
   |ret=>exact⟨_,a₁,w₁,⟨T',M',G',h1,h2,h3,h4,h5⟩,.pass (x:=.inLoop c) rfl (λ_ _=>.inl Q1) d⟩
   |panic ch=>exact⟨_,a₁,w₁,⟨T',M',G',h1,h2,h3,h4,h5⟩,.pass (x:=.inLoop c) rfl (λ_ _=>.inl Q1) d⟩
   |outgrown=>exact⟨_,a₁,w₁,⟨T',M',G',h1,h2,h3,h4,h5⟩,.pass (x:=.inLoop c) rfl (λ_ _=>.inl Q1) d⟩
 obtain⟨e,a',w',hq,d⟩:=key _ T M G w a rfl h0 hi he
 exact⟨e,a',w',hq,.of_steps (.one step_loop) d⟩
end control
def A1j(P:Program)(t:TypeId):Option Nat:=(P.info? t).map (·.size)
def A2s(P:Program)(t:TypeId):Option Bool:=(P.underlying t).map λd=>match d with|.struct _|.array _ _=>true|_=>false
def B6j(P:Program)(t:TypeId):Option Nat:=(P.info? t).map (·.bytes)
def A1b(P:Program)(t:TypeId):Option TypeId:=match P.underlying t with|some (.slice e)=>some e|_=>none
def A1D(P:Program)(t:TypeId)(f:Nat):Option Nat:=match P.underlying t with
 |some (.struct fs)=>match fs[f]? with
  |some x=>match A1j P x.type with
   |some 0=>none
   |some _=>some x.offset
   |none=>none
  |none=>none
 |_=>none
section
variable {P:Program}
def A1N{t:TypeId}{n}(h:A1j P t=some n)(w:World):(sizeOf t).run P w=.ok n w:=by
 unfold A1j at h;cases hi:P.info? t with
 |none=>simp[hi]at h
 |some i=>simp[hi]at h;simp[sizeOf,typeInfo,hi,h]
def B1E{t:TypeId}{b}(h:A2s P t=some b)(w:World):(isAgg t).run P w=.ok b w:=by
 unfold A2s at h;cases hi:P.underlying t with
 |none=>simp[hi]at h
 |some d=>simp[hi]at h;simp only[isAgg,Z0E,Z0p hi,Z0t];subst h;cases d<;>rfl
def A2i{t e:TypeId}(h:A1b P t=some e):P.underlying t=some (.slice e):=by
 unfold A1b at h;split at h
 .rename_i e' he;simp at h;subst h;exact he
 .simp at h
end
def A0y(P:Program)(t:TypeId)(cs:List AV):Option AV:=
 match A2s P t,A1j P t with
 |some true,some n=>if n<=cs.length then some (.agg (cs.take n))else none
 |some false,some _=>match cs with|c::_=>some c|[]=>none
 |_,_=>none
def A2r(M:Mem):AV->Option (List AV)
 |.cptr cs=>some cs
 |.ptr b off=>match M[b]? with
  |some (.cells _ cs)=>if off<=cs.length then some (cs.drop off)else none
  |_=>none
 |.vptr f g off=>match M[f]? with
  |some (.vec _ sz cs _ hist)=>match hist.lookup g with
   |some n=>some ((cs.take (n*sz)).drop off)
   |none=>none
  |_=>none
 |_=>none
def A2o{l:List (Nat×Nat)}{g n:Nat}(h:l.lookup g=some n):(g,n)∈l:=by
 induction l with
 |nil=>simp at h
 |cons x xs ih=>
  obtain⟨a,b⟩:=x;simp only[List.lookup_cons]at h;split at h
  .rename_i e;simp only[Z3i]at e;simp only[Z0b]at h;subst e h;exact Z3f
  .exact Z1y _ (ih h)
def B9C{C:Ctx}{G:A0p}{M:Mem}{w:World}(hi:Inv C G M w){p:AV}{x:Value}(hr:Rep G p x){cs:List AV}(h:A2r M p=some cs):∃(b i:Nat) (vs:List Value),x=.pointer (some ⟨b,i,none⟩)/\A0s G cs vs/\(∀v∈vs,v.oneCell'=true)/\∀j v,vs[j]?=some v->w.cell? ⟨b,i+j,none⟩=some v:=by
 cases p with
 |cptr ds=>
  simp only[A2r,Z0b]at h
  subst h
  simp only[Rep]at hr
  obtain⟨b,i,rfl,hm⟩:=hr
  obtain⟨vs,h1,h2,h3,h4⟩:=hm.vals
  exact⟨b,i,vs,rfl,h1,h3,λj v hv=>hi.st _ _ _ (h4 j v hv)⟩
 |ptr b off=>
  simp only[A2r]at h
  simp only[Rep]at hr
  obtain⟨hb,rfl⟩:=hr
  split at h
  .rename_i ty ds hd;split at h
   .rename_i hle;simp only[Z0b]at h;subst h;obtain⟨vs,hh,h1,h2,h3⟩:=hi.obj b _ hd;refine⟨G.blk b,off,vs.toList.drop off,rfl,h1.drop off,λv hv=>h2 v (Z1l hv),?_⟩;intro j v hv;rw[Z0C]at hv;simpa[World.cell?,hh]using hv
   .simp at h
  .simp at h
 |vptr f g off=>
  simp only[A2r]at h
  simp only[Rep]at hr
  obtain⟨hf,hg,a,cap,hd,rfl⟩:=hr
  split at h
  .rename_i ty sz ds g' hist hM;split at h
   .rename_i n hn;simp only[Z0b]at h;subst h;obtain⟨_,h2,_⟩:=hi.obj f _ hM;obtain⟨_,_,b,o,c,vs,q1,q2,q3,q4,q5,q6,q7,q8,q9⟩:=h2 g n (A2o hn);rw[hd]at q1;simp only[Z0g,Z0b]at q1;obtain⟨rfl,rfl⟩:=q1;refine⟨b,o+off,((vs.toList.drop o).take (n*sz)).drop off,rfl,q6.drop off,λv hv=>q7 v (Z1l hv),?_⟩;intro j v hv;rw[Z0C,Z0x]at hv;split at hv
    .rw[Z0C]at hv;rw[Z2P _ _ _ _ _ _ q4,show o+off+j=o+(off+j)from by omega];simpa using hv
    .simp at hv
   .simp at h
  .simp at h
 |_=>simp[A2r]at h
def B2N{C}{G}{M}{w}(hi:Inv C G M w){p}{x}(hr:Rep G p x){t:TypeId}{cs}{r} (h:A2r M p=some cs)(hl:A0y C.P t cs=some r):∃v,(Instr.loadAt t x).run C.P w=.ok v w/\Rep G r v:=by
 obtain⟨b,i,vs,rfl,h1,h2,h3⟩:=B9C hi hr h
 have a:=h1.length
 unfold A0y at hl
 split at hl
 .rename_i n ha hs;split at hl
  .rename_i hle;simp only[Z0b]at hl;subst hl;have hc:=Z3P (P:=C.P) w ⟨b,i,none⟩ (vs.take n) (λj v hv=>by
    rw[Z0x]at hv;split at hv
    .rw[Z1h];exact h3 j v hv
    .simp at hv)
   (have hn:(vs.take n).length=n:=by rw[Z0s];omega);rw[hn]at hc
   refine⟨.agg (vs.take n).toArray,?_,?_⟩
   .simp only[Instr.loadAt,Instr.sureAddr,loadVar,Z0E,Z0M,Z0t,B1E ha,A1N hs,Z1f,hc]
   .simp only[Rep];exact⟨_,rfl,by simpa using h1.take n,λv hv=>h2 v (Z1m (by simpa using hv))⟩
  .simp at hl
 .rename_i n ha hs;split at hl
  .rename_i c cs';simp only[Z0b]at hl;subst hl;simp only[A0s]at h1;obtain⟨y,d,rfl,h5,h6⟩:=h1;refine⟨y,?_,h5⟩;have h0:=h3 0 y rfl;simp only[Z0S]at h0;simp[Instr.loadAt,Instr.sureAddr,loadVar,B1E ha,run_load,h0]
  .simp at hl
 .simp at hl
def AV.one:AV->Bool
 |.val v=>v.oneCell'
 |.poison|.agg _|.tuple _=>false
 |_=>true
def AV.cells:AV->List AV
 |.agg cs=>cs
 |.val (.agg ys)=>ys.toList.map .val
 |v=>[v]
def AV.storable:AV->Bool
 |.agg _=>true
 |.val (.agg ys)=>ys.toList.all (·.oneCell')
 |v=>v.one
def Rep.one{G}{a}{x}(h:Rep G a x)(h1:a.one=true):x.oneCell'=true:=by
 cases a<;>simp only[AV.one,Z1L]at h1<;>simp only[Rep]at h
 .subst h;exact h1
 .obtain⟨_,rfl⟩:=h;rfl
 .obtain⟨_,_,rfl,_⟩:=h;rfl
 .obtain⟨_,_,rfl,_⟩:=h;rfl
 .obtain⟨_,_,_,_,_,_,_,_,rfl,_⟩:=h;rfl
 .obtain⟨_,_,_,_,_,rfl⟩:=h;rfl
 .obtain⟨_,rfl⟩:=h;rfl
 .obtain⟨_,_,rfl,_⟩:=h;rfl
 .obtain⟨_,rfl,_⟩:=h;rfl
def Rep.cells{G}{a}{x}(h:Rep G a x)(h1:a.storable=true):A0s G a.cells x.cells.toList/\∀v∈x.cells.toList,v.oneCell'=true:=by
 by_cases ha:∃cs,a=.agg cs
 .obtain⟨cs,rfl⟩:=ha;simp only[Rep]at h;obtain⟨ys,rfl,h2,h3⟩:=h;exact⟨by simpa[AV.cells,Value.cells]using h2,by simpa[Value.cells]using h3⟩
 by_cases hv:∃ys,a=.val (.agg ys)
 .obtain⟨ys,rfl⟩:=hv;simp only[Rep]at h;subst h;simp only[AV.storable,Z0D]at h1;refine⟨?_,by simpa[Value.cells]using h1⟩;show A0s G (ys.toList.map .val) ys.toList;generalize ys.toList=l;induction l with
  |nil=>simp[A0s]
  |cons y l ih=>exact⟨y,l,rfl,rfl,ih⟩
 .have b:a.one=true:=by
   cases a with
   |val v=>cases v<;>simp_all [AV.storable,AV.one]
   |_=>simp_all [AV.storable,AV.one]
  have hx:=h.one b;have hc:x.cells=#[x]:=by cases x<;>simp_all [Value.cells,Value.oneCell']
  have c:a.cells=[a]:=by
   cases a with
   |val v=>cases v<;>simp_all [AV.cells]
   |_=>simp_all [AV.cells]
  rw[hc,c];exact⟨by simp[A0s,h],by simpa using hx⟩
def A0e(cs:List AV)(off:Nat)(news:List AV):List AV:=cs.take off++news++cs.drop (off+news.length)
def Inv.setBox{C}{G}{M}{w}(hi:Inv C G M w){k}{cs cs'}{t:TypeId}(hk:M[k]?=some (.cells t cs)){vs}
 (hh:w.heap[G.blk k]?=some (.cells vs t (0,0))){vs'}(hr:A0s G cs' vs'.toList)(h1:∀v∈vs'.toList,v.oneCell'=true):
 Inv C G (M.set k (.cells t cs')) (w.setRow (G.blk k) vs'):=by
 obtain⟨_,_,_,_,c,a⟩:=hi.obj k _ hk
 refine hi.step k (G.blk k) hk (.inl rfl) (.refl _) rfl (λ_=>rfl) (λ_ _=>⟨rfl,rfl⟩) (λb i v h=>.inl h) (λ_=>rfl) (λb _ hne=>Z2f _ _ _ _ hne) (λi v h=>by rw[c i]at h;simp at h) (λo h=>by rw[a]at h;simp at h) ⟨vs',Z2E w _ vs vs' t _ hh,hr,h1,c,a⟩ (λb hb=>.inl hb)
def Ext.setRow(w:World)(g:Nat)(c:Array Value):Ext w (w.setRow g c):=⟨rfl,rfl,rfl,by simp[World.setRow]⟩
def C3b{C}{G}{M}{w}(hi:Inv C G M w){b off}{x}(hr:Rep G (.ptr b off) x){t:TypeId}{cs}{v}{y}{bt:TypeId}(hv:Rep G v y)
 (hb:M[b]?=some (.cells bt cs))(hs:v.storable=true)(j:A1j C.P t=some v.cells.length)(l:off+v.cells.length<=cs.length):
 ∃w',(Instr.storeAt t x y).run C.P w=.ok () w'/\Inv C G (M.set b (.cells bt (A0e cs off v.cells))) w'/\Ext w w':=by
 simp only[Rep]at hr
 obtain⟨k,rfl⟩:=hr
 obtain⟨vs,hh,h1,h2,h3,h4⟩:=hi.obj b _ hb
 obtain⟨i,c⟩:=hv.cells hs
 have g:=h1.length
 have a:=i.length
 have f:=Z2x C.P (G.blk b) off bt y.cells.toList 0 vs w hh (by simp at g a|-;omega) c
 simp only[Z0S]at f
 refine⟨_,?_,hi.setBox hb hh (vs':=(vs.toList.take off++y.cells.toList++vs.toList.drop (off+y.cells.toList.length)).toArray) ?_ ?_,Ext.setRow _ _ _⟩
 .have d:y.cells.size=v.cells.length:=by simpa using a
  simp only[Instr.storeAt,Instr.sureAddr,storeVar,Z0E,Z0M,Z0t,A1N j,d,ne_eq,Z3Y,Z2b,f]
 .simp only[A0e];have e:y.cells.toList.length=v.cells.length:=a;rw[e];exact((h1.take off).append i).append (h1.drop _)
 .intro u hu;simp only[Z0T]at hu;rcases hu with(hu|hu)|hu
  .exact h2 u (Z1m hu)
  .exact c u hu
  .exact h2 u (Z1l hu)
def A0s.of_get{G}:∀{cs:List AV} {ys:List Value},cs.length=ys.length->(∀(i:Nat) (c:AV) (y:Value),cs[i]?=some c->ys[i]?=some y->Rep G c y)->A0s G cs ys
 |[],[],_,_=>by simp[A0s]
 |[],_::_,h,_=>by simp at h
 |_::_,[],h,_=>by simp at h
 |c::cs,y::ys,h,k=>by simp only[A0s];exact⟨y,ys,rfl,k 0 c y rfl rfl,A0s.of_get (by simpa using h) (λi c y h1 h2=>k (i+1) c y (by simpa using h1) (by simpa using h2))⟩
def A0s.get2{G:A0p}{cs:List AV}{ys:List Value}(h:A0s G cs ys){i:Nat}{c:AV}{y:Value}(h1:cs[i]?=some c)(h2:ys[i]?=some y):Rep G c y:=by obtain⟨z,hz,hr⟩:=h.get h1;rw[h2]at hz;simp only[Z0b]at hz;subst hz;exact hr
def B4g{cs news}{off}(h:off+news.length<=cs.length):(A0e cs off news).length=cs.length:=by simp only[A0e,Z0k,Z0s,Z0G];omega
def A5o{α:Type}{cs news:List α}{off i:Nat}(h:off+news.length<=cs.length):(cs.take off++news++cs.drop (off+news.length))[i]?=if off<=i/\i<off+news.length then news[i-off]? else cs[i]?:=by
 by_cases h1:i<off
 .rw[Z0d Q0,Z0F,Z0n (by rw[Z0s];omega),Z0x,Z0c h1]
 .by_cases h2:i<off+news.length
  .rw[Z0c Q0,Z0F,Z1q (by rw[Z0s];omega),Z0n (by rw[Z0s];omega),Z0s];congr 1;omega
  .rw[Z0d Q0,Z1q (by rw[Z0k,Z0s];omega),Z0C];congr 1;rw[Z0k,Z0s];omega
def A0V(sz g off:Nat)(hist:List (Nat×Nat)):List (Nat×Nat):=hist.filter λx=>x.1==g||decide (x.2*sz<=off)
def A6N{C:Ctx}{G:A0p}{M:Mem}{w:World}(hi:Inv C G M w){f g off:Nat}{x:Value}(hr:Rep G (.vptr f g off) x){ty:TypeId}{sz g' n:Nat}{cs:List AV}{j:List (Nat×Nat)}{news:List AV}{ys:List Value}(a9:A0s G news ys)(a8:∀u∈ys,u.oneCell'=true)
 (hM:M[f]?=some (.vec ty sz cs g' j))(hn:j.lookup g=some n)(ae:off+news.length<=n*sz):
 ∃a w',x=.pointer (some a)/\(storeCells a ys).run C.P w=.ok () w'/\Inv C G (M.set f (.vec ty sz (A0e cs off news) g' (A0V sz g off j))) w'/\Ext w w':=by
 simp only[Rep]at hr
 obtain⟨hf,hg,a,cap,hd,rfl⟩:=hr
 have d:=a9.length
 obtain⟨p0,p2,p3⟩:=hi.obj f _ hM
 have q:=A2o hn
 obtain⟨_,ah,b,o,af,vs,q1,q2,q3,q4,q5,q6,q7,q8,q9⟩:=p2 g n q
 have ag:=q1
 rw[hd]at q1
 simp only[Z0g,Z0b]at q1
 obtain⟨rfl,rfl⟩:=q1
 have ad:n*sz<=cap*sz:=Z0U _ q2
 have a0:=Z2x C.P b (o+off) ty ys 0 vs w q4 (by rw[d];omega) a8
 simp only[Z0S,d]at a0
 have m:=Z2E w b vs (vs.toList.take (o+off)++ys++vs.toList.drop (o+off+news.length)).toArray ty (0,0) q4
 generalize s:(vs.toList.take (o+off)++ys++vs.toList.drop (o+off+news.length))=nl at a0 m
 have ab:nl.length=vs.size:=by rw[<-s];simp only[Z0k,Z0s,Z0G,Z0W,d];omega
 have a5:∀i,nl[i]?=if o+off<=i/\i<o+off+news.length then ys[i-(o+off)]? else vs.toList[i]?:=by intro i;have:=A5o (cs:=vs.toList) (news:=ys) (off:=o+off) (i:=i) (by rw[d];simp;omega);rw[d]at this;rw[<-s];exact this
 have a6:A2D G f (.vec ty sz cs g' j) b:=⟨g,n,_,q,by rw[hd],rfl⟩
 have aa:=hi.step (w':=w.setRow b nl.toArray) (o':=.vec ty sz (A0e cs off news) g' (A0V sz g off j)) f b hM (.inl a6) (.refl _) rfl (λ_=>rfl) (λ_ _=>⟨rfl,rfl⟩) (λ_ _ _ h=>.inl h) (λ_=>rfl)
  (λb' _ hne=>Z2f _ _ _ _ hne) (λi v h=>by rw[q8 i]at h;simp at h) (λo h=>by rw[q9]at h;simp at h)
  ⟨p0,λh' n' hm=>?_,λh1 n1 h2 n2 a1 a2 c1 c2 m1 m2=>p3 h1 n1 h2 n2 a1 a2 c1 c2 ((Z1u.1 m1).1) ((Z1u.1 m2).1)⟩
  (λb' ⟨h1,n1,a1,m1,e1,e2⟩=>.inr ⟨h1,n1,a1,(Z1u.1 m1).1,e1,e2⟩)
 .exact⟨_,_,rfl,a0,aa,Ext.setRow _ _ _⟩
 .have a7:=(Z1u.1 hm).1;have t:h'=g\/n'*sz<=off:=by simpa using(Z1u.1 hm).2
  obtain⟨r0,r1,b',o',p,vs',s1,s2,s3,s4,s5,s6,s7,s8,s9⟩:=p2 h' n' a7;have r:(A0e cs off news).length=cs.length:=B4g Q0;refine⟨r0,by rw[r];exact r1,?_⟩;have ac:n'*sz<=p*sz:=Z0U _ s2;by_cases e:b'=b
  .subst e;have eo:(⟨b',o',none⟩:Addr)=⟨b',o,none⟩:=p3 h' n' g n _ _ _ _ a7 q s1 hd rfl;simp only[Z3w,Z2B,Z1z]at eo;subst eo;rw[q4]at s4;simp only[Z0b,Obj.cells.injEq,Z1z]at s4;subst s4;have y:=s6.length;simp only[Z0s,Z0G,Z0W]at y;have gl:∀i,i<n'*sz->((nl.drop o').take (n'*sz))[i]?=if off<=i/\i<off+news.length then ys[i-off]? else((vs.toList.drop o').take (n'*sz))[i]?:=by
    intro i k;rw[Z0x,Z0c k,Z0C,a5,Z0x,Z0c k,Z0C];by_cases hc:off<=i/\i<off+news.length
    .rw[Z0c Q0,Z0c hc];congr 1;omega
    .rw[Z0d Q0,Z0d hc]
   refine⟨b',o',p,nl.toArray,s1,s2,s3,m,by simp only[Z1o];omega,?_,?_,s8,s9⟩
   .refine A0s.of_get ?_ ?_
    .simp only[Z0s,Z0G,r];omega
    .intro i c z hc hz;(have k:i<n'*sz:=by have:=A0N hz;simp only[Z0s]at this;omega);have a3:=gl i k;rw[show(nl.toArray.toList:List Value)=nl from rfl]at hz;rw[a3]at hz;rw[Z0x,Z0c k]at hc;simp only[A0e]at hc;rw[A5o Q0]at hc;by_cases hcc:off<=i/\i<off+news.length
     .rw[Z0c hcc]at hz hc;exact a9.get2 hc hz
     .rw[Z0d hcc]at hz hc;exact s6.get2 (by rw[Z0x,Z0c k];exact hc) hz
   .intro u hu;obtain⟨i,l⟩:=List.mem_iff_getElem?.1 hu;(have k:i<n'*sz:=by have:=A0N l;simp only[Z0s]at this;omega);have a3:=gl i k;rw[show(nl.toArray.toList:List Value)=nl from rfl,a3]at l;by_cases hcc:off<=i/\i<off+news.length
    .rw[Z0c hcc]at l;exact a8 u (Z3F l)
    .rw[Z0d hcc]at l;exact s7 u (Z3F l)
  .have a4:n'*sz<=off:=by
    rcases t with h|h
    .subst h;rw[hd]at s1;simp only[Z0g,Z0b,Z3w]at s1;exact absurd s1.1.1.symm e
    .exact h
   refine⟨b',o',p,vs',s1,s2,s3,by rw[Z2f _ _ _ _ e];exact s4,s5,?_,s7,s8,s9⟩;(have:(A0e cs off news).take (n'*sz)=cs.take (n'*sz):=by simp only[A0e];rw[Z0F,Z1A (by rw[Z0s];omega),Z1T,Z1C a4]);rw[this];exact s6
def C1H{C}{G}{M}{w}(hi:Inv C G M w){f g off}{x}(hr:Rep G (.vptr f g off) x){t:TypeId}{ty:TypeId}{sz g' n}{cs}{hist}{v}{y}(hv:Rep G v y)
 (hM:M[f]?=some (.vec ty sz cs g' hist))(hn:hist.lookup g=some n)(hs:v.storable=true)(k:A1j C.P t=some v.cells.length)(c:off+v.cells.length<=n*sz):
 ∃w',(Instr.storeAt t x y).run C.P w=.ok () w'/\Inv C G (M.set f (.vec ty sz (A0e cs off v.cells) g' (A0V sz g off hist))) w'/\Ext w w':=by
 obtain⟨e,i⟩:=hv.cells hs
 obtain⟨a,w',rfl,j,h2,h3⟩:=A6N hi hr e i hM hn c
 refine⟨w',?_,h2,h3⟩
 have b:=e.length
 have d:y.cells.size=v.cells.length:=by simpa using b
 simp only[Instr.storeAt,Instr.sureAddr,storeVar,Z0E,Z0M,Z0t,A1N k,d,ne_eq,Z3Y,Z2b,j]
def A0p.fix(G:A0p)(nb:Nat)(vs:List Value):A0p:={G with st:=λb i=>if b=nb then vs[i]? else G.st b i}
def Inv.st_lt{C}{G}{M}{w}(hi:Inv C G M w){b i}{v}(h:G.st b i=some v):b<w.heap.size:=Z2A w ⟨b,i,none⟩ (hi.st b i v h)
def Inv.keep_lt{C}{G}{M}{w}(hi:Inv C G M w){b}{o}(h:G.keep b=some o):b<w.heap.size:=(Z1H.1 (hi.keep b o h)).1
def A0p.le_fix{C}{G}{M}{w}(hi:Inv C G M w)(vs:List Value):G.le (G.fix w.heap.size vs):=⟨Z0j _,λ_ _=>rfl,λb i v h=>by have:=hi.st_lt h;simp only[A0p.fix];rw[Z0d Q0];exact h,λ_ _ h=>h,λ_ _=>Z0j _,λ_ _ _ _=>rfl⟩
def A2E(w:World)(o:Obj)(b:Nat)(h:b<w.heap.size):(w.alloc o).heap[b]?=w.heap[b]?:=by show(w.heap.push o)[b]?=_;rw[Array.getElem?_push,Z0d Q0]
def B8s(w:World)(o:Obj)(b i:Nat)(h:b<w.heap.size):(w.alloc o).cell? ⟨b,i,none⟩=w.cell? ⟨b,i,none⟩:=by have:=A2E w o b h;simp[World.cell?,this]
def Inv.fix{C}{G}{M}{w}(hi:Inv C G M w)(c:Array Value)(t:TypeId)(vs:List Value)(m:∀(i:Nat) (v:Value),vs[i]?=some v->c[i]?=some v):Inv C (G.fix w.heap.size vs) M (w.alloc (.cells c t)):=by
 have d:=A0p.le_fix hi vs
 have l:∀b i v,(G.fix w.heap.size vs).st b i=some v->(b=w.heap.size/\vs[i]?=some v)\/(b<w.heap.size/\G.st b i=some v):=by
  intro b i v h;simp only[A0p.fix]at h;by_cases e:b=w.heap.size
  .rw[Z0c e]at h;exact .inl ⟨e,h⟩
  .rw[Z0d e]at h;exact .inr ⟨hi.st_lt h,h⟩
 have a:=λb (h:b<w.heap.size)=>A2E w (.cells c t) b h
 refine⟨hi.n,?_,?_,?_,?_,λg=>Rep.mono d _ _ (hi.gl g),hi.tab_le d⟩
 .intro b i v hv;rcases l b i v hv with⟨rfl,h⟩|⟨f,h⟩
  .have:=Z1U w (.cells c t);rw[Z2P _ _ _ _ _ _ this];exact m i v h
  .rw[B8s _ _ _ _ f];exact hi.st b i v h
 .intro b o ho;rw[a b (hi.keep_lt ho)];exact hi.keep b o ho
 .intro k o hk;have ho:=hi.obj k o hk;refine ho.keeps d (by rw[hi.n];exact A0N hk) rfl ⟨rfl,rfl⟩ (λb hb i v hv=>?_) (λ_=>rfl) (λb hb=>a b (ho.owns_lt hb));have f:=ho.owns_lt hb;simp only[A0p.fix]at hv;rwa[Z0d Q0]at hv
 .intro i j x y b hx hy ox oy;have ob:∀k x b,A2D (G.fix w.heap.size vs) k x b<->A2D G k x b:=λk x b=>by cases x<;>exact Iff.rfl
  rw[ob]at ox oy;exact hi.apart i j x y b hx hy ox oy
def Ext.alloc(w:World)(o:Obj):Ext w (w.alloc o):=⟨rfl,rfl,rfl,Q1⟩
def Ext.drew(w:World):Ext w w.drew:=⟨rfl,rfl,rfl,Z0j _⟩
def A0Q.fix{C}{G}{M}{w}(hi:Inv C G M w){cs}{vs}(hr:A0s G cs vs)(h1:∀v∈vs,v.oneCell'=true):A0Q (G.fix w.heap.size vs) cs w.heap.size 0:=A0Q.mk (A0s.mono (A0p.le_fix hi vs) _ _ hr) h1 (λj v hv=>by simp only[A0p.fix,Z1f,Z0P];exact hv)
def Inv.newBox{C}{G}{M}{w}(hi:Inv C G M w){cs}{vs}(t:TypeId)(hr:A0s G cs vs.toList)(h1:∀v∈vs.toList,v.oneCell'=true):∃G',Inv C G' (M++[.cells t cs]) (w.alloc (.cells vs t))/\G.le G'/\G'.blk M.length=w.heap.size/\M.length<G'.n:=by
 have hm:=hi.more w.heap.size (λ_=>(none,0)) 0
 have hk:(M++[A0l.gone])[M.length]?=some .gone:=by simp
 have hb:(G.more w.heap.size (λ_=>(none,0)) 0).blk M.length=w.heap.size:=by simp[A0p.more,hi.n]
 have c:∀i,(G.more w.heap.size (λ_=>(none,0)) 0).st w.heap.size i=none:=by
  intro i;cases h:G.st w.heap.size i with
  |none=>exact h
  |some v=>have:=hi.st_lt h;omega
 have a:(G.more w.heap.size (λ_=>(none,0)) 0).keep w.heap.size=none:=by
  cases h:G.keep w.heap.size with
  |none=>exact h
  |some v=>have:=hi.keep_lt h;omega
 have:=hm.step (w':=w.alloc (.cells vs t)) (o':=.cells t cs) M.length w.heap.size hk (.inr (Z0j _)) (.refl _) rfl (λ_=>rfl) (λ_ _=>⟨rfl,rfl⟩) (λ_ _ _ h=>.inl h) (λ_=>rfl)
  (λb hlt _=>A2E w _ b hlt) (λi v h=>by rw[c]at h;simp at h) (λo h=>by rw[a]at h;simp at h)
  ⟨vs,by rw[hb];exact Z1U w _,A0s.mono (G.le_more _ _ _) _ _ hr,h1,by rw[hb];exact c,by rw[hb];exact a⟩ (λb h=>.inl (by simp only[A2D,hb]at h;exact h))
 refine⟨_,?_,G.le_more _ _ _,hb,by simp[A0p.more,hi.n]⟩
 simpa using this
def Inv.newObj{C}{G}{M}{w}(hi:Inv C G M w)(o:Obj)(ao:A0l)(h:Nat->Option Addr×Nat)(t:Nat)
 (e:∀G',G.le G'->G'.blk M.length=w.heap.size->G'.hdr M.length=h->G'.top M.length=t->(∀i,G'.st w.heap.size i=none)->G'.keep w.heap.size=none->A5j G' (w.alloc o) M.length ao)
 (d:∀G' b,G'.blk M.length=w.heap.size->G'.hdr M.length=h->A2D G' M.length ao b->b=w.heap.size):
 ∃G',Inv C G' (M++[ao]) (w.alloc o)/\G.le G'/\G'.blk M.length=w.heap.size/\M.length<G'.n/\G'.hdr M.length=h/\G'.top M.length=t:=by
 have hm:=hi.more w.heap.size h t
 have hk:(M++[A0l.gone])[M.length]?=some .gone:=by simp
 have hb:(G.more w.heap.size h t).blk M.length=w.heap.size:=by simp[A0p.more,hi.n]
 have hh:(G.more w.heap.size h t).hdr M.length=h:=by simp[A0p.more,hi.n]
 have ht:(G.more w.heap.size h t).top M.length=t:=by simp[A0p.more,hi.n]
 have c:∀i,(G.more w.heap.size h t).st w.heap.size i=none:=by
  intro i;cases h:G.st w.heap.size i with
  |none=>exact h
  |some v=>have:=hi.st_lt h;omega
 have a:(G.more w.heap.size h t).keep w.heap.size=none:=by
  cases h:G.keep w.heap.size with
  |none=>exact h
  |some v=>have:=hi.keep_lt h;omega
 have:=hm.step (w':=w.alloc o) (o':=ao) M.length w.heap.size hk (.inr (Z0j _)) (.refl _) rfl (λ_=>rfl) (λ_ _=>⟨rfl,rfl⟩) (λ_ _ _ h=>.inl h) (λ_=>rfl)
  (λb hlt _=>A2E w _ b hlt) (λi v h=>by rw[c]at h;simp at h) (λo h=>by rw[a]at h;simp at h)
  (e _ (G.le_more _ _ _) hb hh ht c a) (λb h=>.inl (d _ b hb hh h))
 refine⟨_,?_,G.le_more _ _ _,hb,by simp[A0p.more,hi.n],hh,ht⟩
 simpa using this
def A8Q:AV->Option (List (List AV)×Own)
 |.val (.slice none 0 0)=>some ([],.full)
 |.list _ rows own=>some (rows,own)
 |_=>none
def B2I(sz:Nat):AV->Prop
 |.list s _ _=>s=sz
 |_=>True
def B7S{C}{G}{M}{w}(hi:Inv C G M w){v}{x}{sz}{rows}{own}(hr:Rep G v x)(h:A8Q v=some (rows,own))(hs:B2I sz v):∃base cap,x=.slice base rows.length cap/\rows.length<=cap/\cap<=maxLen/\(match base with|none=>rows=[]/\cap=0|some a=>(rows≠[]->a.spot=none)/\A0C G sz rows a.block a.off)/\A5G G own rows.length base cap:=by
 unfold A8Q at h
 split at h
 .simp only[Z0b,Z0g]at h;obtain⟨rfl,rfl⟩:=h;simp only[Rep]at hr;subst hr;exact⟨none,0,rfl,Z0j _,by simp[maxLen],⟨rfl,rfl⟩,rfl⟩
 .simp only[Z0b,Z0g]at h;obtain⟨rfl,rfl⟩:=h;simp only[B2I]at hs;subst hs;simp only[Rep]at hr;exact hr
 .simp at h
def B2W{C:Ctx}{G:A0p}{M:Mem}{w:World}(hi:Inv C G M w){base:Option Addr}{sz cap:Nat}{rows:List (List AV)}
 (h:match base with|none=>rows=[]/\cap=0|some a=>(rows≠[]->a.spot=none)/\A0C G sz rows a.block a.off):
 ∃vs:List Value,A0s G rows.flatten vs/\vs.length=rows.length*sz/\(∀v∈vs,v.oneCell'=true)/\(∀r∈rows,r.length=sz)/\∀w',w'.heap=w.heap->(Builtin.firstCells sz rows.length (.slice base rows.length cap)).run C.P w'=.ok vs.toArray w':=by
 cases base with
 |none=>
  obtain⟨rfl,_⟩:=h
  exact⟨[],by simp[A0s],Q1,Q1,Q1,λw' _=>by simp[Builtin.firstCells]⟩
 |some a=>
  obtain⟨b,h⟩:=h
  obtain⟨hm,hl⟩:=A0C.flat h
  obtain⟨vs,h1,h2,h3,h4⟩:=hm.vals
  refine⟨vs,h1,Q0,h3,h.sizes,λw' hw=>?_⟩
  refine Z2c (P:=C.P) w' sz rows.length a rows.length cap vs Q0 (λj v hv=>?_)
  have c:rows≠[]:=by intro e;subst e;have:=A0N hv;simp at h2;subst h2;simp at this
  have b:=b c
  have ea:a=⟨a.block,a.off,none⟩:=by cases a;simp_all
  rw[ea,Z1h]
  have:=hi.st _ _ _ (h4 j v hv)
  simpa[World.cell?,hw]using this
def A4l(P:Program)(u:TypeId):Prop:=(∃e2,P.underlying u=some (.slice e2))\/P.underlying u=some .string
section
variable {P:Program}
def A9A{t u e:TypeId}{ty:TypeId}{sz:Nat}{s x:Value}{base:Option Addr}{n cap:Nat}{w:World}(ht:P.underlying t=some (.slice e))(c:A1j P e=some sz)
 (hu:A4l P u)(hx:∀w,(Builtin.lenOf x).run P w=.ok 0 w)
 (b:(Builtin.firstCells sz 0 x).run P w=.ok #[] w)(a:n<=cap):(Builtin.append_ #[t,u] ty #[.slice base n cap,x]).run P w=.ok (.slice base n cap) w:=by
 obtain⟨e2,hu⟩|hu:=hu
 all_goals cases base<;>simp[Builtin.append_,Z0p ht,Z0p hu,A1N c,hx,b,a,storeCells]
def C1U{t u e:TypeId}{ty:TypeId}{sz}{x}{g n cap m}{w}(ht:P.underlying t=some (.slice e))(f:A1j P e=some sz)
 (hu:A4l P u)(hx:∀w,(Builtin.lenOf x).run P w=.ok m w)
 {news}(d:(Builtin.firstCells sz m x).run P w=.ok news.toArray w)(c:n+m<=cap){cur}{ct:TypeId}(hg:w.heap[g]?=some (.cells cur ct (0,0)))
 (b:n*sz+news.length<=cur.size)(h1:∀v∈news,v.oneCell'=true):
 (Builtin.append_ #[t,u] ty #[.slice (some ⟨g,0,none⟩) n cap,x]).run P w=.ok (.slice (some ⟨g,0,none⟩) (n+m) cap) (w.setRow g (cur.toList.take (n*sz)++news++cur.toList.drop (n*sz+news.length)).toArray):=by
 obtain⟨e2,hu⟩|hu:=hu
 all_goals
  have a:=Z2x P g (n*sz) ct news 0 cur w hg (by simpa using b) h1
  simp only[Z0S]at a
  simp[Builtin.append_,Z0p ht,Z0p hu,A1N f,hx,d,c,a,Z1h]
def A9L{t u e:TypeId}{ty:TypeId}{i:TypeInfo}{z x:Value}{base:Option Addr}{n cap m:Nat}{w:World}(ht:P.underlying t=some (.slice e))(hi:P.info? e=some i)(hz:i.zero=some z)
 (hu:A4l P u)(hx:∀w,(Builtin.lenOf x).run P w=.ok m w)
 {news olds:List Value}(c:(Builtin.firstCells i.size m x).run P w.drew=.ok news.toArray w.drew)(f:(Builtin.firstCells i.size n (.slice base n cap)).run P w.drew=.ok olds.toArray w.drew)
 (d:cap<n+m)(hb:(n+m)*i.bytes<=140737488355328)(g:n+m<=maxLen):
 (Builtin.append_ #[t,u] ty #[.slice base n cap,x]).run P w=.ok (.slice (some ⟨w.heap.size,0,none⟩) (n+m) (grownCap w (n+m) cap e)) (w.drew.alloc (.cells (olds.toArray++news.toArray++Builtin.zeroCells z.cells (grownCap w (n+m) cap e-(n+m))) e)):=by
 have hn:¬(n+m<=cap):=Q0
 have b:¬(9223372036854775807<((n:Int)+(m:Int))):=by simp only[maxLen]at g;omega
 have j:=growslice_fits d hb
 have a:¬(281474976710656<Builtin.nextslicecap (n+m) cap*i.bytes):=Q0
 obtain⟨e2,hu⟩|hu:=hu
 all_goals simp[Builtin.append_,Z0p ht,Z0p hu,sizeOf,typeInfo,zeroValue,hi,hz,hx,hn,b,a,Question.forced,c,f,newRow,grownCap]
 all_goals (congr 2;apply Z1K;simp)
end
def A3X(P:Program)(e:TypeId)(sz bytes:Nat):Prop:=∃i z,P.info? e=some i/\i.zero=some z/\i.size=sz/\i.bytes=bytes/\z.cells.size=sz/\0<bytes
def A9p(hint:Bool)(sz:Nat)(s x:AV)(M:Mem):Option (AV×Mem):=
 match A8Q s,A8Q x with
 |some (r1,own),some (r2,_)=>
  match own with
  |.fam f=>match M[f]? with
   |some (.fam m sz')=>if m=r1.length/\sz'=sz then some (.list sz (r1++r2) (.fam f),M.set f (.fam (r1.length+r2.length) sz))else none
   |_=>none
  |.full=>if hint then some (.list sz (r1++r2) (.fam M.length),M++[.fam (r1.length+r2.length) sz])else some (.list sz (r1++r2) .no,M)
  |.no=>none
 |_,_=>none
def A6P(s:AV):Nat:=match A8Q s with|some (r,_)=>r.length|none=>0
def A5Q(P:Program)(base:Option Addr)(n c:Nat)(w:World):(Builtin.lenOf (.slice base n c)).run P w=.ok n w:=rfl
def A0p.grow(G:A0p)(f n:Nat)(h:Option Addr×Nat)(nb o:Nat)(vs:List Value):A0p:={G with st:=λb i=>if b=nb/\o<=i/\i<o+vs.length then vs[i-o]? else G.st b i,hdr:=λj=>if j=f thenλk=>if k=n then h else G.hdr f k else G.hdr j,top:=λj=>if j=f then n else G.top j}
def A0p.le_grow{G:A0p}{f n:Nat}{h:Option Addr×Nat}{nb o:Nat}{vs:List Value}(hn:G.top f<n\/(G.top f=n/\G.hdr f n=h))(a:∀i v,o<=i->i<o+vs.length->G.st nb i=some v->vs[i-o]?=some v):G.le (G.grow f n h nb o vs):=by
 refine⟨Z0j _,λ_ _=>rfl,λb i v hv=>?_,λ_ _ h=>h,λj _=>?_,λj _ k hk=>?_⟩
 .simp only[A0p.grow];split
  .rename_i e;obtain⟨rfl,h1,h2⟩:=e;exact a i v h1 h2 hv
  .exact hv
 .simp only[A0p.grow];by_cases e:j=f
  .subst e;rw[Z0c rfl];omega
  .rw[Z0d e];exact Z0j _
 .simp only[A0p.grow];by_cases e:j=f
  .subst e;rw[Z0c rfl];by_cases e2:k=n
   .subst e2;rw[Z0c rfl];rcases hn with h1|⟨_,h1⟩
    .omega
    .exact h1.symm
   .rw[Z0d e2]
  .rw[Z0d e]
end Go.Abs
