/- The texts Zal, CsX, AbsA, AbsB, AbsC, AbsC2, AbsD, AbsE, AbsF. -/
import Derived.WalkKit
set_option linter.all false
section
def Z0a:=@Option.some.injEq
def Z0b:=@Prod.mk.injEq
def Z0c:=@List.getElem?_eq_some_iff
def Z0d:=@if_pos
def Z0e:=@if_neg
def Z0f:=@Bool.and_eq_true
def Z0g:=@List.getElem?_set_ne
def Z0h:=@List.drop_eq_getElem_cons
def Z0i:=@Option.map_eq_some_iff
def Z0j:=@List.getElem?_append_left
def Z0k:=@decide_eq_false
def Z0l:=@List.take_of_length_le
def Z0m:=@List.getElem?_eq_getElem
def Z0n:=@List.drop_eq_nil_of_le
def Z0o:=@decide_eq_true_eq
def Z0p:=@decide_eq_true
def Z0q:=@Bool.false_and
def Z0r:=@List.all_eq_true
def Z0s:=@Bool.true_and
def Z0t:=@Go.run_underlying
def Z0u:=@Nat.le_refl
def Z0v:=@List.getElem_mem
def Z0w:=@List.eq_nil_of_length_eq_zero
def Z0x:=@ByteArray.size_append
def Z0y:=@Go.Result.andThen_ok
def Z0z:=@List.length_append
def Z0A:=@List.take_succ_eq_append_getElem
def Z0B:=@List.length_cons
def Z0C:=@List.map_cons
def Z0D:=@List.take_succ_cons
def Z0E:=@Bool.false_eq_true
def Z0F:=@List.mem_cons
def Z0G:=@if_true
def Z0H:=@Go.Sem.run_bind
def Z0I:=@List.length_take
def Z0J:=@eq_true
def Z0K:=@Nat.zero_add
def Z0L:=@List.length_map
def Z0M:=@Option.map_some
def Z0N:=@Nat.add_mul
def Z0O:=@List.append_assoc
def Z0P:=@List.mem_singleton
def Z0Q:=@List.map_append
def Z0R:=@List.getElem?_take
def Z0S:=@Go.Sem.run_pure
def Z0T:=@Nat.le_trans
def Z0U:=@Array.getElem?_eq_getElem
def Z0V:=@Nat.add_zero
def Z0W:=@List.mem_map
def Z0X:=@Bool.false_or
def Z0Y:=@if_false
def Z0Z:=@List.flatten_cons
def Z1a:=@List.getElem?_drop
def Z1b:=@List.mem_append
def Z1c:=@beq_eq_false_iff_ne
def Z1d:=@List.getD_eq_getElem?_getD
def Z1e:=@List.length_drop
def Z1f:=@List.append_nil
def Z1g:=@List.cons.injEq
def Z1h:=@Nat.mul_le_mul_right
def Z1i:=@List.getElem?_eq_none
def Z1j:=@Bool.not_false
def Z1k:=@List.all_cons
def Z1l:=@List.map_take
def Z1m:=@List.getElem?_append_right
def Z1n:=@decide_eq_false_iff_not
def Z1o:=@List.take_append_drop
def Z1p:=@Option.getD_some
def Z1q:=@List.drop_zero
def Z1r:=@List.mem_of_mem_take
def Z1s:=@Bool.not_true
def Z1t:=@List.length_nil
def Z1u:=@List.getElem?_map
def Z1v:=@List.flatMap_cons
def Z1w:=@Nat.lt_of_lt_of_le
def Z1x:=@Go.Addr.add_lit
def Z1y:=@List.flatMap_append
def Z1z:=@List.mem_of_mem_drop
def Z1A:=@Array.ext'
def Z1B:=@List.getElem?_append
def Z1C:=@List.length_set
def Z1D:=@List.mem_range
def Z1E:=@Array.length_toList
def Z1F:=@Bool.true_or
def Z1G:=@List.mem_filter
def Z1H:=@Bool.and_false
def Z1I:=@Nat.eq_of_beq_eq_true
def Z1J:=@List.ext_getElem?
def Z1K:=@of_decide_eq_true
def Z1L:=@List.map_map
def Z1M:=@Option.bind_eq_some_iff
def Z1N:=@Array.getElem?_eq_some_iff
def Z1O:=@Bool.or_eq_true
def Z1P:=@List.map_nil
def Z1Q:=@Bool.eq_iff_iff
def Z1R:=@List.cons_append
def Z1S:=@List.map_congr_left
def Z1T:=@List.drop_succ_cons
def Z1U:=@Bool.not_eq_true'
def Z1V:=@List.any_cons
def Z1W:=@List.not_mem_nil
def Z1X:=@List.drop_drop
def Z1Y:=@List.replicate_succ
def Z1Z:=@Option.some.inj
def Z2a:=@Go.heap_alloc_new
def Z2b:=@Bool.or_eq_false_iff
def Z2c:=@Nat.le_mul_of_pos_right
def Z2d:=@List.getElem?_set
def Z2e:=@and_true
def Z2f:=@List.take_add_one
def Z2g:=@Nat.min_eq_left
def Z2h:=@List.nil_append
def Z2i:=@List.length_pos_iff
def Z2j:=@Option.bind_some
def Z2k:=@Ne.symm
def Z2l:=@List.mem_cons_of_mem
def Z2m:=@List.size_toArray
def Z2n:=@List.foldl_append
def Z2o:=@Nat.add_assoc
def Z2p:=@Bool.and_true
def Z2q:=@Go.World.block_lt_of_cell?
def Z2r:=@Go.run_firstCells_some
def Z2s:=@List.getD_cons_zero
def Z2t:=@Nat.sub_lt_sub_left
def Z2u:=@true_and
def Z2v:=@List.take_zero
def Z2w:=@List.getElem_map
def Z2x:=@Nat.le_of_eq
def Z2y:=@List.findIdx?_eq_some_iff_findIdx_eq
def Z2z:=@List.nodup_cons
def Z2A:=@Bool.and_eq_false_iff
def Z2B:=@Nat.mod_two_eq_zero_or_one
def Z2C:=@Nat.succ_le_of_lt
def Z2D:=@Go.Calls.mono
def Z2E:=@beq_iff_eq
def Z2F:=@Classical.byContradiction
def Z2G:=@Go.cell_of_row
def Z2H:=@not_or
def Z2I:=@List.any_eq_true
def Z2J:=@List.any_nil
def Z2K:=@Nat.lt_succ_self
def Z2L:=@List.getElem?_cons_zero
def Z2M:=@List.foldl_cons
def Z2N:=@Option.isSome_some
def Z2O:=@Nat.add_sub_cancel
def Z2P:=@Option.toList_some
def Z2Q:=@List.range_succ
def Z2R:=@List.filter_eq_nil_iff
def Z2S:=@List.getElem_cons_succ
def Z2T:=@List.take_append_of_le_length
def Z2U:=@List.nodup_append
def Z2V:=@List.take_take
def Z2W:=@List.drop_take
def Z2X:=@Nat.zero_mul
def Z2Y:=@List.length_filter_le
def Z2Z:=@Nat.le_of_ble_eq_true
def Z3a:=@Option.or_eq_none_iff
def Z3b:=@Nat.mul_le_mul
def Z3c:=@List.mem_of_getElem?
def Z3d:=@beq_self_eq_true
def Z3e:=@List.mem_or_eq_of_mem_set
def Z3f:=@List.mem_of_find?_eq_some
def Z3g:=@List.mem_cons_self
def Z3h:=@Go.grownCap_le_maxLen
def Z3i:=@List.mem_replicate
def Z3j:=@List.all_nil
def Z3k:=@List.Pairwise.imp_of_mem
def Z3l:=@or_false
def Z3m:=@List.mapM_cons
def Z3n:=@Option.none_or
def Z3o:=@Go.run_storeCells_at
def Z3p:=@List.set_eq_take_append_cons_drop
def Z3q:=@Go.Addr.mk.injEq
def Z3r:=@Go.DataW.trod_lt
def Z3s:=@Option.getD_none
def Z3t:=@Array.toList_map
def Z3u:=@Array.all_toList
def Z3v:=@List.mem_flatMap
def Z3w:=@List.flatMap_map
def Z3x:=@Option.or_eq_some_iff
def Z3y:=@Nat.lt_or_ge
def Z3z:=@Go.setRow_other
def Z3A:=@Go.run_newObj
def Z3B:=@List.mem_append_left
def Z3C:=@Nat.succ_mul
def Z3D:=@List.set_set
def Z3E:=@Nat.add_comm
def Z3F:=@Array.eq_empty_of_size_eq_zero
def Z3G:=@List.find?_cons
def Z3H:=@List.all_append
def Z3I:=@List.getD_cons_succ
def Z3J:=@Go.Value.pointer.injEq
def Z3K:=@List.length_flatMap
def Z3L:=@Array.getElem?_setIfInBounds
def Z3M:=@and_self
def Z3N:=@Nat.zero_le
def Z3O:=@Option.isSome_none
def Z3P:=@decide_eq_true_iff
def Z3Q:=@Array.getD_eq_getD_getElem?
def Z3R:=@Array.getElem?_append_left
def Z3S:=@Bool.or_false
def Z3T:=@Bool.or_assoc
def Z3U:=@Bool.and_self
def Z3V:=@not_true_eq_false
def Z3W:=@Array.size_append
def Z3X:=@Bool.not_eq_false
def Z3Y:=@Array.mapM_eq_mapM_toList
def Z3Z:=@List.getLast?_eq_getElem?
def Z4a:=@List.pairwise_iff_getElem
def Z4b:=@List.mem_flatten
def Z4c:=@Array.any_toList
def Z4d:=@Option.isSome_iff_exists
def Z4e:=@List.filter_cons
def Z4f:=@Nat.add_sub_cancel_left
def Z4g:=@false_and
def Z4h:=@Go.World.var?_cell
def Z4i:=@Go.setRow_heap
def Z4j:=@Go.grownCap_ge
def Z4k:=@List.drop_of_length_le
def Z4l:=@List.getElem?_set_self
def Z4m:=@decide_true
def Z4n:=@List.take_left
def Z4o:=@Go.wp_mono
def Z4p:=@Go.size_zeroCells
def Z4q:=@Nat.ble_eq_true_of_le
def Z4r:=@Nat.testBit_or
def Z4s:=@List.length_singleton
def Z4t:=@ByteArray.data_append
def Z4u:=@List.pairwise_flatMap
def Z4v:=@Array.getElem?_toList
def Z4w:=@List.drop_nil
def Z4x:=@List.set_comm
def Z4y:=@ByteArray.ext
def Z4z:=@Nat.beq_refl
def Z4A:=@decide_false
def Z4B:=@Bool.or_true
end
namespace Go.Abs
section
variable (par:Nat->Int) (N:Nat)
def chL(p:Int):List Nat:=(List.range N).filter λk=>decide (par k=p)
def A6Y:Nat->Nat->List Nat
 |0,_=>[]
 |f+1,n=>n::(chL par N (n:Int)).flatMap (A6Y f)
inductive Up (n:Nat):Nat->Prop
 |refl:Up n n
 |step {i j:Nat}:par j=(i:Int)->Up n i->Up n j
end
section
variable {par:Nat->Int} {N:Nat}
def A6y{p}{k}:k∈chL par N p<->k<N/\par k=p:=by simp[chL]
def C0F{p}:(chL par N p).Nodup:=List.Pairwise.filter _ List.nodup_range
def Up.le(hp:∀j,j<N->par j<j){n j}(h:Up par n j):j<N->n<=j:=by
 induction h with
 |refl=>intro _;exact Z0u _
 |step e _ ih=>intro hj;have:=hp _ hj;have:=ih (by omega);omega
def Up.uniq(hp:∀j,j<N->par j<j){a j}(h:Up par a j):∀{b:Nat},j<N->Up par b j->par a=par b->a=b:=by
 induction h with
 |refl=>
  intro b hj hb e;cases hb with
  |refl=>rfl
  |step e2 h2=>rename_i i;have hi:=hp a hj;have:=h2.le hp (by omega);have:=hp b (by omega);omega
 |step e1 h1 ih=>
  rename_i i j;intro b hj hb e;have hi:=hp j hj;cases hb with
  |refl=>have:=h1.le hp (by omega);have:=hp a (by omega);omega
  |step e2 h2=>rename_i i2;(have:i=i2:=by omega);subst this;exact ih (by omega) h2 e
def Up.down(hp:∀j,j<N->par j<j){n j}(h:Up par n j):j<N->j=n\/∃i,i<N/\par i=(n:Int)/\Up par i j:=by
 induction h with
 |refl=>intro _;exact .inl rfl
 |step e h ih=>
  rename_i i j;intro hj;have:=hp j hj;rcases ih (by omega)with h1|⟨k,h1,h2,h3⟩
  .subst h1;exact .inr ⟨j,hj,e,.refl⟩
  .exact .inr ⟨k,h1,h2,.step e h3⟩
def Up.trans{n i j}(h1:Up par n i)(h2:Up par i j):Up par n j:=by
 induction h2 with
 |refl=>exact h1
 |step e _ ih=>exact .step e ih
def B3k(hp:∀j,j<N->par j<j):∀f n,n<N->N<=f+n->(A6Y par N f n).Nodup/\∀j,j∈A6Y par N f n<->j<N/\Up par n j
 |0,n,h,hf=>by omega
 |f+1,n,h,hf=>by
  have ih:∀i,i∈chL par N (n:Int)->(A6Y par N f i).Nodup/\∀j,j∈A6Y par N f i<->j<N/\Up par i j:=λi hi=>by obtain⟨h1,h2⟩:=A6y.1 hi;have:=hp i h1;exact B3k hp f i h1 (by omega)
  have hm:∀j,j∈(chL par N (n:Int)).flatMap (A6Y par N f)<->j<N/\∃i,i<N/\par i=(n:Int)/\Up par i j:=λj=>by
   rw[Z3v];constructor
   .rintro⟨i,hi,hj⟩;obtain⟨h1,h2⟩:=A6y.1 hi;obtain⟨h3,h4⟩:=((ih i hi).2 j).1 hj;exact⟨h3,i,h1,h2,h4⟩
   .rintro⟨h3,i,h1,h2,h4⟩;exact⟨i,A6y.2 ⟨h1,h2⟩,((ih i (A6y.2 ⟨h1,h2⟩)).2 j).2 ⟨h3,h4⟩⟩
  rw[A6Y];refine⟨?_,λj=>?_⟩
  .rw[Z2z];refine⟨λhn=>?_,?_⟩
   .obtain⟨h1,i,h2,h3,h4⟩:=(hm n).1 hn;have:=h4.le hp h1;have:=hp i h2;omega
   .unfold List.Nodup;rw[Z4u];refine⟨λi hi=>(ih i hi).1,?_⟩;refine Z3k ?_ (C0F (par:=par) (N:=N) (p:=(n:Int)));intro a b ha hb c x hx y hy e;subst e;obtain⟨a1,a2⟩:=((ih a ha).2 x).1 hx;obtain⟨b1,b2⟩:=((ih b hb).2 x).1 hy;exact c (a2.uniq hp a1 b2 (by rw[(A6y.1 ha).2,(A6y.1 hb).2]))
  .rw[Z0F,hm];constructor
   .rintro(rfl|⟨h1,i,h2,h3,h4⟩)
    .exact⟨h,.refl⟩
    .exact⟨h1,(Up.step h3 .refl).trans h4⟩
   .rintro⟨h1,h2⟩;rcases h2.down hp h1 with e|⟨i,h3,h4,h5⟩
    .exact .inl e
    .exact .inr ⟨h1,i,h3,h4,h5⟩
def D4u(hp:∀j,j<N->-1<=par j/\par j<j):∀j,j<N->∃i,i<N/\par i=-1/\Up par i j:=by
 intro j;induction j using Nat.strongRecOn with
 |ind j ih=>
  intro hj;have:=hp j hj;by_cases c:par j=-1
  .exact⟨j,hj,c,.refl⟩
  .obtain⟨i,h1,h2,h3⟩:=ih (par j).toNat (by omega) (by omega);exact⟨i,h1,h2,.step (by omega) h3⟩
def B3q(par:Nat->Int)(N:Nat):List Nat:=(chL par N (-1)).flatMap (A6Y par N N)
def C4k(hp:∀j,j<N->-1<=par j/\par j<j):(B3q par N).Nodup/\∀j,j∈B3q par N<->j<N:=by
 have c:∀j,j<N->par j<j:=λj h=>(hp j h).2;have ih:∀i,i∈chL par N (-1)->(A6Y par N N i).Nodup/\∀j,j∈A6Y par N N i<->j<N/\Up par i j:=λi hi=>B3k c N i (A6y.1 hi).1 (by omega);refine⟨?_,λj=>?_⟩
 .unfold B3q List.Nodup;rw[Z4u];refine⟨λi hi=>(ih i hi).1,?_⟩;refine Z3k ?_ (C0F (par:=par) (N:=N) (p:=-1));intro a b ha hb d x hx y hy e;subst e;obtain⟨a1,a2⟩:=((ih a ha).2 x).1 hx;obtain⟨b1,b2⟩:=((ih b hb).2 x).1 hy;exact d (a2.uniq c a1 b2 (by rw[(A6y.1 ha).2,(A6y.1 hb).2]))
 .unfold B3q;rw[Z3v];constructor
  .rintro⟨i,hi,hj⟩;exact(((ih i hi).2 j).1 hj).1
  .intro hj;obtain⟨i,h1,h2,h3⟩:=D4u hp j hj;exact⟨i,A6y.2 ⟨h1,h2⟩,((ih i (A6y.2 ⟨h1,h2⟩)).2 j).2 ⟨hj,h3⟩⟩
end
section
variable {K V:Type} [DecidableEq K]
def C2G:∀{l m:List K},l.Nodup->(∀x∈l,x∈m)->l.length<=m.length
 |[],m,_,_=>by simp
 |a::l,m,h,hs=>by
  rw[Z2z]at h;have ha:=hs a (by simp);have:=C2G (l:=l) (m:=m.erase a) h.2 λx hx=>by have b:x≠a:=λe=>h.1 (by rw[<-e];exact hx);exact(List.mem_erase_of_ne b).2 (hs x (by simp[hx]))
  rw[List.length_erase_of_mem ha]at this;have:=List.length_pos_of_mem ha;simp;omega
def D4A{l m:List K}(h:l.Nodup)(hs:∀x∈l,x∈m)(hl:m.length<=l.length):∀x∈m,x∈l:=by
 intro x hx;refine Z2F λhn=>?_;have:=C2G (l:=x::l) (m:=m) (by rw[Z2z];exact⟨hn,h⟩) (by
  intro y hy;simp only[Z0F]at hy;rcases hy with rfl|hy
  .exact hx
  .exact hs y hy)
 simp at this;omega
def B7n:∀{W:List (K×V)} {x:K} {v:V},(W.map (·.1)).Nodup->(x,v)∈W->W.filter (λy=>decide (y.1=x))=[(x,v)]
 |[],x,v,_,h=>by simp at h
 |y::W,x,v,hn,h=>by
  simp only[Z0C,Z2z]at hn;simp only[Z0F]at h;rcases h with rfl|h
  .rw[List.filter_cons_of_pos (by simp)];(have:W.filter (λy=>decide (y.1=x))=[]:=by rw[Z2R];intro z hz e;exact hn.1 (by simp only[Z0o]at e;rw[<-e];exact Z0W.2 ⟨z,hz,rfl⟩));rw[this]
  .have a:y.1≠x:=λe=>hn.1 (by rw[e];exact Z0W.2 ⟨(x,v),h,rfl⟩);rw[List.filter_cons_of_neg (by simpa using a)];exact B7n hn.2 h
def C9n{W:List (K×V)}{g:K->V}{b:List K}(hn:(W.map (·.1)).Nodup)(hg:∀y∈W,g y.1=y.2)(hi:∀x∈b,x∈W.map (·.1)):b.flatMap (λx=>W.filter λy=>decide (y.1=x))=b.map λx=>(x,g x):=by
 induction b with
 |nil=>rfl
 |cons x b ih=>
  rw[Z1v,Z0C,ih λy hy=>hi y (by simp[hy])]
  obtain⟨y,hy,e⟩:=Z0W.1 (hi x (by simp))
  obtain⟨a,v⟩:=y
  simp only at e
  subst e
  rw[B7n hn hy,hg _ hy]
  rfl
end
inductive Own where
 |no
 |full
 |fam (f:Nat)
inductive AV where
 |poison
 |val (v:Value)
 |ptr (b off:Nat)
 |cptr (cells:List AV)
 |list (sz:Nat) (rows:List (List AV)) (own:Own)
 /-- a window,from row lo on,of the slice that the array f had at its time g -/
 |vref (f g sz lo len:Nat)
 /-- a pointer to a cell of it -/
 |vptr (f g off:Nat)
 |mapr (b:Nat)
 |func (fn:Fn) (first captured:List AV)
 |iface (t:TypeId) (v:AV)
 |agg (cells:List AV)
 |tuple (vs:List AV)
structure A0m where
 n:Nat
 blk:Nat->Nat
 st:Nat->Nat->Option Value
 keep:Nat->Option Obj
 hdr:Nat->Nat->Option Addr×Nat
 top:Nat->Nat
structure A0m.le (G G':A0m):Prop where
 n:G.n<=G'.n
 blk:∀b,b<G.n->G'.blk b=G.blk b
 st:∀b i v,G.st b i=some v->G'.st b i=some v
 keep:∀b o,G.keep b=some o->G'.keep b=some o
 top:∀f,f<G.n->G.top f<=G'.top f
 hdr:∀f,f<G.n->∀k,k<=G.top f->G'.hdr f k=G.hdr f k
def A0m.le.refl(G:A0m):G.le G:=⟨Z0u _,λ_ _=>rfl,λ_ _ _ h=>h,λ_ _ h=>h,λ_ _=>Z0u _,λ_ _ _ _=>rfl⟩
def A0m.le.trans{A B C:A0m}(h:A.le B)(k:B.le C):A.le C:=
 ⟨Z0T h.n k.n,λb hb=>(k.blk b (Z1w hb h.n)).trans (h.blk b hb),λb i v hv=>k.st b i v (h.st b i v hv),
  λb o ho=>k.keep b o (h.keep b o ho),λf hf=>Z0T (h.top f hf) (k.top f (Z1w hf h.n)),
  λf hf j hj=>(k.hdr f (Z1w hf h.n) j (Z0T hj (h.top f hf))).trans (h.hdr f hf j hj)⟩
def A6j(G:A0m)(own:Own)(len:Nat)(base:Option Addr)(cap:Nat):Prop:=
 match own with
 |.no=>True
 |.full=>cap=len
 |.fam f=>f<G.n/\len<=G.top f/\G.hdr f len=(base,cap)
def A6j.mono{G G'}(h:G.le G'){own}{len}{base}{cap}(k:A6j G own len base cap):A6j G' own len base cap:=by
 cases own with
 |no=>trivial
 |full=>exact k
 |fam f=>obtain⟨h1,h2,h3⟩:=k;exact⟨Z1w h1 h.n,Z0T h2 (h.top f h1),(h.hdr f h1 _ h2).trans h3⟩
mutual
def Rep(G:A0m):AV->Value->Prop
 |.poison,_=>True
 |.val v,x=>x=v
 |.ptr b off,x=>b<G.n/\x=.pointer (some ⟨G.blk b,off,none⟩)
 |.cptr cs,x=>∃b i,x=.pointer (some ⟨b,i,none⟩)/\A0M G cs b i
 |.list sz rows own,x=>∃base cap,x=.slice base rows.length cap/\rows.length<=cap/\cap<=maxLen/\(match base with|none=>rows=[]/\cap=0|some a=>(rows≠[]->a.spot=none)/\A0z G sz rows a.block a.off)/\A6j G own rows.length base cap
 |.vref f g sz lo len,x=>f<G.n/\g<=G.top f/\∃a a' cap,G.hdr f g=(some a,cap)/\a.spot=none/\a'.spot=none/\x=.slice (some a') len (cap-lo)/\lo+len<=cap/\cap<=maxLen/\(lo<cap->a'=⟨a.block,a.off+lo*sz,none⟩)
 |.vptr f g off,x=>f<G.n/\g<=G.top f/\∃a cap,G.hdr f g=(some a,cap)/\x=.pointer (some ⟨a.block,a.off+off,none⟩)
 |.mapr b,x=>b<G.n/\x=.map (some (G.blk b))
 |.func fn f c,x=>∃fs cs:Array Value,x=.func fn fs cs/\A0q G f fs.toList/\A0q G c cs.toList
 |.iface t v,x=>∃y,x=.iface t y/\Rep G v y
 |.agg cs,x=>∃ys:Array Value,x=.agg ys/\A0q G cs ys.toList/\∀y∈ys.toList,y.oneCell'=true
 |.tuple cs,x=>∃ys:Array Value,x=.tuple ys/\A0q G cs ys.toList
def A0q(G:A0m):List AV->List Value->Prop
 |[],ys=>ys=[]
 |c::cs,ys=>∃y ys',ys=y::ys'/\Rep G c y/\A0q G cs ys'
def A0M(G:A0m):List AV->Nat->Nat->Prop
 |[],_,_=>True
 |c::cs,b,i=>(∃v,G.st b i=some v/\v.oneCell'=true/\Rep G c v)/\A0M G cs b (i+1)
def A0z(G:A0m)(sz:Nat):List (List AV)->Nat->Nat->Prop
 |[],_,_=>True
 |r::rs,b,i=>(r.length=sz/\A0M G r b i)/\A0z G sz rs b (i+sz)
end
mutual
def Rep.mono{G G'}(h:G.le G'):∀(a:AV) (x:Value),Rep G a x->Rep G' a x
 |.poison,_,_=>by simp[Rep]
 |.val v,x,k=>by simpa[Rep]using k
 |.ptr b off,x,k=>by simp only[Rep]at k|-;exact⟨Z1w k.1 h.n,by rw[h.blk b k.1];exact k.2⟩
 |.cptr cs,x,k=>by simp only[Rep]at k|-;obtain⟨b,i,hx,hm⟩:=k;exact⟨b,i,hx,A0M.mono h cs b i hm⟩
 |.list sz rows own,x,k=>by
  simp only[Rep]at k|-;obtain⟨base,cap,hx,hl,hm,hb,ho⟩:=k;refine⟨base,cap,hx,hl,hm,?_,ho.mono h⟩;cases base with
  |none=>exact hb
  |some a=>exact⟨hb.1,A0z.mono h sz rows _ _ hb.2⟩
 |.vref f g sz lo len,x,k=>by simp only[Rep]at k|-;obtain⟨h1,h2,a,a',cap,h3,h4⟩:=k;exact⟨Z1w h1 h.n,Z0T h2 (h.top f h1),a,a',cap,(h.hdr f h1 g h2).trans h3,h4⟩
 |.vptr f g off,x,k=>by simp only[Rep]at k|-;obtain⟨h1,h2,a,cap,h3,h4⟩:=k;exact⟨Z1w h1 h.n,Z0T h2 (h.top f h1),a,cap,(h.hdr f h1 g h2).trans h3,h4⟩
 |.mapr b,x,k=>by simp only[Rep]at k|-;exact⟨Z1w k.1 h.n,by rw[h.blk b k.1];exact k.2⟩
 |.func fn f c,x,k=>by simp only[Rep]at k|-;obtain⟨fs,cs,hx,h1,h2⟩:=k;exact⟨fs,cs,hx,A0q.mono h f _ h1,A0q.mono h c _ h2⟩
 |.iface t v,x,k=>by simp only[Rep]at k|-;obtain⟨y,hx,h1⟩:=k;exact⟨y,hx,Rep.mono h v y h1⟩
 |.agg cs,x,k=>by simp only[Rep]at k|-;obtain⟨ys,hx,h1,h2⟩:=k;exact⟨ys,hx,A0q.mono h cs _ h1,h2⟩
 |.tuple cs,x,k=>by simp only[Rep]at k|-;obtain⟨ys,hx,h1⟩:=k;exact⟨ys,hx,A0q.mono h cs _ h1⟩
def A0q.mono{G G'}(h:G.le G'):∀(cs:List AV) (ys:List Value),A0q G cs ys->A0q G' cs ys
 |[],ys,k=>by simpa[A0q]using k
 |c::cs,ys,k=>by simp only[A0q]at k|-;obtain⟨y,a,hy,h1,h2⟩:=k;exact⟨y,a,hy,Rep.mono h c y h1,A0q.mono h cs a h2⟩
def A0M.mono{G G'}(h:G.le G'):∀(cs:List AV) (b i:Nat),A0M G cs b i->A0M G' cs b i
 |[],_,_,_=>by simp[A0M]
 |c::cs,b,i,k=>by simp only[A0M]at k|-;obtain⟨⟨v,hv,ho,h1⟩,h2⟩:=k;exact⟨⟨v,h.st b i v hv,ho,Rep.mono h c v h1⟩,A0M.mono h cs b (i+1) h2⟩
def A0z.mono{G G'}(h:G.le G')(sz:Nat):∀(rs:List (List AV)) (b i:Nat),A0z G sz rs b i->A0z G' sz rs b i
 |[],_,_,_=>by simp[A0z]
 |r::rs,b,i,k=>by simp only[A0z]at k|-;exact⟨⟨k.1.1,A0M.mono h r b i k.1.2⟩,A0z.mono h sz rs b (i+sz) k.2⟩
end
def A0q.length{G}:∀{cs:List AV} {ys:List Value},A0q G cs ys->ys.length=cs.length
 |[],ys,k=>by simp only[A0q]at k;subst k;rfl
 |c::cs,ys,k=>by simp only[A0q]at k;obtain⟨y,a,rfl,_,h2⟩:=k;simp[A0q.length h2]
def A0q.get{G}:∀{cs:List AV} {ys:List Value},A0q G cs ys->∀{i:Nat} {c:AV},cs[i]?=some c->∃y,ys[i]?=some y/\Rep G c y
 |[],_,_,i,c,hc=>by simp at hc
 |c::cs,ys,k,i,c',hc=>by
  simp only[A0q]at k;obtain⟨y,a,rfl,h1,h2⟩:=k;cases i with
  |zero=>simp at hc;subst hc;exact⟨y,rfl,h1⟩
  |succ i=>simpa using A0q.get h2 (i:=i) (by simpa using hc)
def A0q.append{G}:∀{cs ds:List AV} {ys zs:List Value},A0q G cs ys->A0q G ds zs->A0q G (cs++ds) (ys++zs)
 |[],ds,ys,zs,k,h=>by simp only[A0q]at k;subst k;exact h
 |c::cs,ds,ys,zs,k,h=>by simp only[A0q]at k;obtain⟨y,a,rfl,h1,h2⟩:=k;simp only[Z1R,A0q];exact⟨_,_,rfl,h1,A0q.append h2 h⟩
def A0q.take{G}:∀{cs:List AV} {ys:List Value},A0q G cs ys->∀n,A0q G (cs.take n) (ys.take n)
 |[],ys,k,n=>by simp only[A0q]at k;subst k;simp[A0q]
 |c::cs,ys,k,n=>by
  simp only[A0q]at k;obtain⟨y,a,rfl,h1,h2⟩:=k;cases n with
  |zero=>simp[A0q]
  |succ n=>simp only[Z0D,A0q];exact⟨_,_,rfl,h1,A0q.take h2 n⟩
def A0q.drop{G}:∀{cs:List AV} {ys:List Value},A0q G cs ys->∀n,A0q G (cs.drop n) (ys.drop n)
 |[],ys,k,n=>by simp only[A0q]at k;subst k;simp[A0q]
 |c::cs,ys,k,n=>by
  cases n with
  |zero=>simpa using k
  |succ n=>simp only[A0q]at k;obtain⟨y,a,rfl,h1,h2⟩:=k;simpa using A0q.drop h2 n
def A0M.get{G}:∀{cs:List AV} {b i:Nat},A0M G cs b i->∀{j:Nat} {c:AV},cs[j]?=some c->∃v,G.st b (i+j)=some v/\v.oneCell'=true/\Rep G c v
 |[],_,_,_,j,c,hc=>by simp at hc
 |c::cs,b,i,k,j,c',hc=>by
  simp only[A0M]at k;obtain⟨⟨v,hv⟩,h2⟩:=k;cases j with
  |zero=>simp at hc;subst hc;exact⟨v,hv⟩
  |succ j=>obtain⟨v',h⟩:=A0M.get h2 (j:=j) (by simpa using hc);exact⟨v',by rw[show i+(j+1)=i+1+j from by omega];exact h.1,h.2⟩
def A0M.drop{G}:∀{cs:List AV} {b i:Nat},A0M G cs b i->∀n,A0M G (cs.drop n) b (i+n)
 |[],_,_,_,n=>by simp[A0M]
 |c::cs,b,i,k,n=>by
  cases n with
  |zero=>simpa using k
  |succ n=>simp only[A0M]at k;rw[show i+(n+1)=i+1+n from by omega];simpa using A0M.drop k.2 n
def A0M.take{G}:∀{cs:List AV} {b i:Nat},A0M G cs b i->∀n,A0M G (cs.take n) b i
 |[],_,_,_,n=>by simp[A0M]
 |c::cs,b,i,k,n=>by
  cases n with
  |zero=>simp[A0M]
  |succ n=>simp only[A0M,Z0D]at k|-;exact⟨k.1,A0M.take k.2 n⟩
def A0M.append{G}:∀{cs ds:List AV} {b i:Nat},A0M G cs b i->A0M G ds b (i+cs.length)->A0M G (cs++ds) b i
 |[],_,_,_,_,h=>by simpa using h
 |c::cs,ds,b,i,k,h=>by simp only[A0M,Z1R]at k|-;exact⟨k.1,A0M.append k.2 (by rw[show i+1+cs.length=i+(c::cs).length from by simp;omega];exact h)⟩
def A0M.vals{G}:∀{cs:List AV} {b i:Nat},A0M G cs b i->∃vs:List Value,A0q G cs vs/\vs.length=cs.length/\(∀v∈vs,v.oneCell'=true)/\∀j v,vs[j]?=some v->G.st b (i+j)=some v
 |[],_,_,_=>⟨[],by simp[A0q],rfl,by simp,by simp⟩
 |c::cs,b,i,k=>by
  simp only[A0M]at k;obtain⟨⟨v,hv,ho,h1⟩,h2⟩:=k;obtain⟨vs,h3,h4,h5,h6⟩:=A0M.vals h2;refine⟨v::vs,by simp only[A0q];exact⟨v,vs,rfl,h1,h3⟩,by simp[h4],by simpa[ho]using h5,?_⟩;intro j u hu;cases j with
  |zero=>simp at hu;subst hu;exact hv
  |succ j=>rw[show i+(j+1)=i+1+j from by omega];exact h6 j u (by simpa using hu)
def A0M.mk{G}:∀{cs:List AV} {vs:List Value} {b i:Nat},A0q G cs vs->(∀v∈vs,v.oneCell'=true)->(∀j v,vs[j]?=some v->G.st b (i+j)=some v)->A0M G cs b i
 |[],_,_,_,_,_,_=>by simp[A0M]
 |c::cs,vs,b,i,k,ho,h=>by simp only[A0q]at k;obtain⟨y,a,rfl,h1,h2⟩:=k;simp only[A0M];exact⟨⟨y,by simpa using h 0 y rfl,ho y (by simp),h1⟩,A0M.mk h2 (λv hv=>ho v (by simp[hv])) (λj v hv=>by rw[show i+1+j=i+(j+1)from by omega];exact h (j+1) v (by simpa using hv))⟩
def A0z.row{G}{sz}:∀{rs:List (List AV)} {b i:Nat},A0z G sz rs b i->∀{j:Nat} {r:List AV},rs[j]?=some r->r.length=sz/\A0M G r b (i+j*sz)
 |[],_,_,_,j,r,hr=>by simp at hr
 |r::rs,b,i,k,j,r',hr=>by
  simp only[A0z]at k;cases j with
  |zero=>simp at hr;subst hr;simpa using k.1
  |succ j=>have:=A0z.row k.2 (j:=j) (by simpa using hr);refine⟨this.1,?_⟩;rw[show i+(j+1)*sz=i+sz+j*sz from by rw[Z0N];omega];exact this.2
def A0z.flat{G}{sz}:∀{rs:List (List AV)} {b i:Nat},A0z G sz rs b i->A0M G rs.flatten b i/\rs.flatten.length=rs.length*sz
 |[],_,_,_=>by simp[A0M]
 |r::rs,b,i,k=>by
  simp only[A0z]at k;have h:=A0z.flat k.2;refine⟨?_,?_⟩
  .simp only[Z0Z];exact A0M.append k.1.2 (by rw[k.1.1];exact h.1)
  .simp only[Z0Z,Z0z,Z0B,h.2,k.1.1,Z0N];omega
def A0z.mk{G}{sz}:∀{rs:List (List AV)} {b i:Nat},(∀r∈rs,r.length=sz)->A0M G rs.flatten b i->A0z G sz rs b i
 |[],_,_,_,_=>by simp[A0z]
 |r::rs,b,i,hs,k=>by simp only[A0z];have hr:r.length=sz:=hs r (by simp);have h1:=A0M.take k r.length;have h2:=A0M.drop k r.length;simp only[Z0Z,Z4n,List.drop_left]at h1 h2;exact⟨⟨hr,h1⟩,A0z.mk (λx hx=>hs x (by simp[hx])) (by rw[<-hr];exact h2)⟩
def A0z.sizes{G}{sz}{rs}{b i}(k:A0z G sz rs b i):∀r∈rs,r.length=sz:=by intro r hr;obtain⟨j,hj,rfl⟩:=List.mem_iff_getElem.1 hr;exact(A0z.row k (j:=j) (by simp[hj])).1
def A0z.take{G}{sz}:∀{rs:List (List AV)} {b i:Nat},A0z G sz rs b i->∀n,A0z G sz (rs.take n) b i
 |[],_,_,_,n=>by simp[A0z]
 |r::rs,b,i,k,n=>by
  cases n with
  |zero=>simp[A0z]
  |succ n=>simp only[A0z,Z0D]at k|-;exact⟨k.1,A0z.take k.2 n⟩
def A0z.drop{G}{sz}:∀{rs:List (List AV)} {b i:Nat},A0z G sz rs b i->∀n,A0z G sz (rs.drop n) b (i+n*sz)
 |[],_,_,_,n=>by simp[A0z]
 |r::rs,b,i,k,n=>by
  cases n with
  |zero=>simpa using k
  |succ n=>simp only[A0z]at k;rw[show i+(n+1)*sz=i+sz+n*sz from by rw[Z0N];omega];simpa using A0z.drop k.2 n
inductive A0p where
 |gone
 /-- a variable,of type t -/
 |cells (t:TypeId) (cs:List AV)
 |fam (m sz:Nat)
 /-- an array that may be written:its cells,its time,and which of its slices (by time and length) still read as its first cells -/
 |vec (e:TypeId) (sz:Nat) (cs:List AV) (g:Nat) (hist:List (Nat×Nat))
 /-- a map:keys,values,ages -/
 |map (es:List (AV×AV×Nat)) (clock:Nat)
 |siter (s:ByteArray) (pos:Nat)
 |miter (m:Option Nat) (since:Nat) (A1c:List Nat) (stepped:Nat)
abbrev Mem:=List A0p
abbrev Env:=Nat->AV
def A3i(G:A0m)(k:Nat)(o:A0p)(b:Nat):Prop:=match o with
 |.gone=>False
 |.fam m _=>m<(G.hdr k m).2/\∃a,(G.hdr k m).1=some a/\a.block=b
 |.vec _ _ _ _ hist=>∃h n a,(h,n)∈hist/\(G.hdr k h).1=some a/\a.block=b
 |_=>b=G.blk k
def D6d(G:A0m)(w:World)(k:Nat)(t:TypeId)(sz:Nat)(cs:List AV)(h n:Nat):Prop:=h<=G.top k/\n*sz<=cs.length/\∃b o cap vs,G.hdr k h=(some ⟨b,o,none⟩,cap)/\n<=cap/\cap<=maxLen/\w.heap[b]?=some (.cells vs t (0,0))/\o+cap*sz<=vs.size/\A0q G (cs.take (n*sz)) ((vs.toList.drop o).take (n*sz))/\(∀v∈(vs.toList.drop o).take (n*sz),v.oneCell'=true)/\(∀i,G.st b i=none)/\G.keep b=none
def B4J(G:A0m)(e:AV×AV×Nat)(x:MapEntry):Prop:=Rep G e.1 x.key/\Rep G e.2.1 x.val/\x.born=e.2.2
inductive A1p (G:A0m):List (AV×AV×Nat)->List MapEntry->Prop
 |nil:A1p G [] []
 |cons {e x es xs}:B4J G e x->A1p G es xs->A1p G (e::es) (x::xs)
def A1p.mono{G G'}(h:G.le G'){es}{xs}(k:A1p G es xs):A1p G' es xs:=by
 induction k with
 |nil=>exact .nil
 |cons h1 _ ih=>exact .cons ⟨Rep.mono h _ _ h1.1,Rep.mono h _ _ h1.2.1,h1.2.2⟩ ih
def A5J(G:A0m)(w:World)(k:Nat):A0p->Prop
 |.gone=>True
 |.cells t cs=>∃(vs:Array Value),w.heap[G.blk k]?=some (.cells vs t (0,0))/\A0q G cs vs.toList/\(∀v∈vs.toList,v.oneCell'=true)/\(∀i,G.st (G.blk k) i=none)/\G.keep (G.blk k)=none
 |.fam m sz=>G.top k=m/\m<=(G.hdr k m).2/\(G.hdr k m).2<=maxLen/\(m<(G.hdr k m).2->∃(g:Nat) (vs:Array Value) (t:TypeId),(G.hdr k m).1=some ⟨g,0,none⟩/\w.heap[g]?=some (.cells vs t (0,0))/\(G.hdr k m).2*sz<=vs.size/\(∀i,m*sz<=i->G.st g i=none)/\G.keep g=none)
 |.vec e sz cs g hist=>G.top k=g/\(∀h n,(h,n)∈hist->D6d G w k e sz cs h n)/\(∀h n h' n' a a' c c',(h,n)∈hist->(h',n')∈hist->G.hdr k h=(some a,c)->G.hdr k h'=(some a',c')->a.block=a'.block->a=a')
 |.map es clock=>∃xs:Array MapEntry,w.heap[G.blk k]?=some (.map xs clock)/\A1p G es xs.toList/\G.keep (G.blk k)=none
 |.siter s pos=>w.heap[G.blk k]?=some (.stringIter s pos)/\G.keep (G.blk k)=none
 |.miter m since A1c stepped=>w.heap[G.blk k]?=some (.mapIter (m.map G.blk) since A1c.toArray stepped)/\(∀b∈m,b<G.n)/\G.keep (G.blk k)=none
structure Ctx where
 P:Program
 gl:Nat->AV
 /-- variables whose whole memory is known -/
 tab:Nat->Option (Array Value)
 /-- types of slices that are made as data,whatever the hint says -/
 data:TypeId->Bool
structure Inv (C:Ctx) (G:A0m) (M:Mem) (w:World):Prop where
 n:G.n=M.length
 st:∀b i v,G.st b i=some v->w.cell? ⟨b,i,none⟩=some v
 keep:∀b o,G.keep b=some o->w.heap[b]?=some o
 obj:∀k o,M[k]?=some o->A5J G w k o
 apart:∀j k x y b,M[j]?=some x->M[k]?=some y->A3i G j x b->A3i G k y b->j=k
 gl:∀g,Rep G (C.gl g) (.pointer (some ⟨g,0,none⟩))
 tab:∀g cs,C.tab g=some cs->∃t f,G.keep g=some (.cells cs t f)
def Inv.tab_le{C}{G G'}{M}{w}(hi:Inv C G M w)(a:G.le G'):∀g cs,C.tab g=some cs->∃t f,G'.keep g=some (.cells cs t f):=λg cs h=>by obtain⟨t,f,k⟩:=hi.tab g cs h;exact⟨t,f,a.keep _ _ k⟩
structure Ext (w w':World):Prop where
 os:w'.os=w.os
 tape:w'.tape=w.tape
 output:w'.output=w.output
 size:w.heap.size<=w'.heap.size
def Ext.refl(w:World):Ext w w:=⟨rfl,rfl,rfl,Z0u _⟩
def Ext.trans{a b c}(h:Ext a b)(k:Ext b c):Ext a c:=⟨k.os.trans h.os,k.tape.trans h.tape,k.output.trans h.output,Z0T h.size k.size⟩
def A0r{α:Type}{l:List α}{k:Nat}{x:α}(h:l[k]?=some x):k<l.length:=by
 rcases Z3y k l.length with h'|h'
 .exact h'
 .simp[Z1i h']at h
def A5E{w:World}{b:Nat}{o:Obj}(h:w.heap[b]?=some o):b<w.heap.size:=(Z1N.1 h).1
def A5J.owns_lt{G:A0m}{w:World}{k:Nat}{o:A0p}(h:A5J G w k o){b:Nat}(ho:A3i G k o b):b<w.heap.size:=by
 cases o with
 |gone=>exact ho.elim
 |cells t cs=>obtain⟨vs,h1,_⟩:=h;simp only[A3i]at ho;subst ho;exact A5E h1
 |fam m sz=>obtain⟨c,a,ha,rfl⟩:=ho;obtain⟨g,vs,t,q1,q2,_⟩:=h.2.2.2 c;rw[q1]at ha;simp only[Z0a]at ha;subst ha;exact A5E q2
 |vec e sz rows g hist=>obtain⟨h',n,a,hm,ha,rfl⟩:=ho;obtain⟨_,_,b,o,cap,vs,q1,_,_,q2,_⟩:=h.2.1 h' n hm;rw[q1]at ha;simp only[Z0a]at ha;subst ha;exact A5E q2
 |map es clock=>obtain⟨xs,h1,_⟩:=h;simp only[A3i]at ho;subst ho;exact A5E h1
 |siter s pos=>simp only[A3i]at ho;subst ho;exact A5E h.1
 |miter m since A1c stepped=>simp only[A3i]at ho;subst ho;exact A5E h.1
def A5J.keeps{G G'}{w w'}{k}{o}(h:A5J G w k o)(j:G.le G')(hk:k<G.n)(a:G'.blk k=G.blk k)(d:G'.hdr k=G.hdr k/\G'.top k=G.top k) (q:∀b,A3i G k o b->∀i v,G'.st b i=some v->G.st b i=some v)(c:∀b,G'.keep b=G.keep b)(hw:∀b,A3i G k o b->w'.heap[b]?=w.heap[b]?):A5J G' w' k o:=by
 have A7R:∀b,A3i G k o b->∀i,G.st b i=none->G'.st b i=none:=by
  intro b hb i hn;cases hs:G'.st b i with
  |none=>rfl
  |some v=>rw[q b hb i v hs]at hn;simp at hn
 cases o with
 |gone=>trivial
 |cells t cs=>
  obtain⟨vs,h1,h2,h3,h4,h5⟩:=h
  refine⟨vs,by rw[a,hw _ rfl];exact h1,A0q.mono j _ _ h2,h3,λi=>?_,by rw[a,c];exact h5⟩
  rw[a];exact A7R _ rfl i (h4 i)
 |fam m sz=>
  obtain⟨h0,h1,p,h2⟩:=h
  simp only[A5J,d.1,d.2]
  refine⟨h0,h1,p,λl=>?_⟩
  obtain⟨g,vs,t,q1,q2,q3,q4,q5⟩:=h2 l
  have f:A3i G k (.fam m sz) g:=⟨l,_,q1,rfl⟩
  exact⟨g,vs,t,q1,by rw[hw _ f];exact q2,q3,λi hi'=>A7R _ f i (q4 i hi'),by rw[c];exact q5⟩
 |vec e sz rows g hist=>
  obtain⟨h0,h2,h3⟩:=h
  simp only[A5J,d.1,d.2]
  refine⟨h0,λh' n hm=>?_,h3⟩
  obtain⟨p1,p2,b,o,cap,vs,q1,q2,q3,q4,q5,q6,q7,q8,q9⟩:=h2 h' n hm
  have f:A3i G k (.vec e sz rows g hist) b:=⟨h',n,_,hm,by rw[q1],rfl⟩
  exact⟨by rw[d.2];exact p1,p2,b,o,cap,vs,by rw[d.1];exact q1,q2,q3,by rw[hw _ f];exact q4,q5,A0q.mono j _ _ q6,q7,λi=>A7R _ f i (q8 i),by rw[c];exact q9⟩
 |map es clock=>
  obtain⟨xs,h1,h2,h3⟩:=h
  exact⟨xs,by rw[a,hw _ rfl];exact h1,h2.mono j,by rw[a,c];exact h3⟩
 |siter s pos=>exact⟨by rw[a,hw _ rfl];exact h.1,by rw[a,c];exact h.2⟩
 |miter m since A1c stepped=>
  refine⟨?_,λb hb=>Z1w (h.2.1 b hb) j.n,by rw[a,c];exact h.2.2⟩
  have e:m.map G'.blk=m.map G.blk:=by
   cases m with
   |none=>rfl
   |some b=>simp[j.blk b (h.2.1 b rfl)]
  rw[a,hw _ rfl,h.1,e]
def Inv.step{C:Ctx}{G G':A0m}{M:Mem}{w w':World}(hi:Inv C G M w)(k gb:Nat){o o':A0p}(hk:M[k]?=some o)
 (a5:A3i G k o gb\/w.heap.size<=gb)(a0:G.le G')(hn:G'.n=G.n)(t:∀b,G'.blk b=G.blk b)
 (u:∀f,f≠k->G'.hdr f=G.hdr f/\G'.top f=G.top f)
 (a2:∀b i v,G'.st b i=some v->G.st b i=some v\/(b=gb/\w'.cell? ⟨b,i,none⟩=some v))(l:∀b,G'.keep b=G.keep b)
 (hw:∀b,b<w.heap.size->b≠gb->w'.heap[b]?=w.heap[b]?)(a3:∀i v,G.st gb i=some v->w'.cell? ⟨gb,i,none⟩=some v)(s:∀o,G.keep gb≠some o)
 (ho:A5J G' w' k o')(a1:∀b,A3i G' k o' b->b=gb\/A3i G k o b):Inv C G' (M.set k o') w':=by
 have z:=A0r hk
 have c:∀b i v,w.cell? ⟨b,i,none⟩=some v->b<w.heap.size:=λb i v h=>Z2q w ⟨b,i,none⟩ h
 have d:∀j x b,M[j]?=some x->j≠k->A3i G j x b->b≠gb:=by
  intro j x b hj a4 hb e;subst e;have p:=(hi.obj j x hj).owns_lt hb;rcases a5 with h|h
  .exact a4 (hi.apart j k x o b hj hk hb h)
  .omega
 have a:∀j x b,j≠k->(A3i G' j x b<->A3i G j x b):=by intro j x b hj;cases x<;>simp[A3i,t,(u j hj).1]
 refine⟨by rw[hn];simpa using hi.n,?_,?_,?_,?_,λg=>Rep.mono a0 _ _ (hi.gl g),hi.tab_le a0⟩
 .intro b i v hv;rcases a2 b i v hv with h|⟨_,h⟩
  .by_cases e:b=gb
   .subst e;exact a3 i v h
   .have:=hi.st b i v h;have p:=c b i v this;simpa[World.cell?,hw b p e]using this
  .exact h
 .intro b x hx;rw[l]at hx;have h0:=hi.keep b x hx;have p:b<w.heap.size:=(Z1N.1 h0).1;have a7:b≠gb:=by intro e;subst e;exact s x hx
  rw[hw b p a7];exact h0
 .intro j x hj;by_cases e:j=k
  .subst e;simp[z]at hj;subst hj;exact ho
  ·(have r:M[j]?=some x:=by have:k≠j:=λh=>e h.symm;simpa[Z2d,this]using hj);have hx:=hi.obj j x r;refine hx.keeps a0 (by rw[hi.n];exact A0r r) (t j) (u j e) (λb hb i v hv=>?_) l (λb hb=>hw b (hx.owns_lt hb) (d j x b r e hb));rcases a2 b i v hv with h|⟨h,_⟩
   .exact h
   .exact absurd h (d j x b r e hb)
 .intro i j x y b hx hy ox oy;have m:∀i x,i≠k->(M.set k o')[i]?=some x->M[i]?=some x:=by intro i x e hx;have:k≠i:=λh=>e h.symm;simpa[Z2d,this]using hx
  have key:∀i j x y,i=k->j≠k->(M.set k o')[i]?=some x->(M.set k o')[j]?=some y->A3i G' i x b->A3i G' j y b->False:=by
   intro i j x y e1 e2 hx hy ox oy;subst e1;simp[z]at hx;subst hx;have q:=m j y e2 hy;rw[a j y b e2]at oy;rcases a1 b ox with hb|hb
   .exact d j y b q e2 oy hb
   .exact e2 (hi.apart j i y o b q hk oy hb)
  by_cases e1:i=k<;>by_cases e2:j=k
  .rw[e1,e2]
  .exact(key i j x y e1 e2 hx hy ox oy).elim
  .exact(key j i y x e2 e1 hy hx oy ox).elim
  .have a6:=m i x e1 hx;have q:=m j y e2 hy;rw[a i x b e1]at ox;rw[a j y b e2]at oy;exact hi.apart i j x y b a6 q ox oy
def A0m.more(G:A0m)(nb:Nat)(h:Nat->Option Addr×Nat)(t:Nat):A0m:={G with n:=G.n+1,blk:=λb=>if b=G.n then nb else G.blk b,hdr:=λf=>if f=G.n then h else G.hdr f,top:=λf=>if f=G.n then t else G.top f}
def A0m.le_more(G:A0m)(nb:Nat)(h:Nat->Option Addr×Nat)(t:Nat):G.le (G.more nb h t):=⟨Nat.le_succ _,λb hb=>Z0e (by omega),λ_ _ _ h=>h,λ_ _ h=>h,λf hf=>by simp only[A0m.more];rw[Z0e (by omega)];exact Z0u _,λf hf k _=>by simp only[A0m.more];rw[Z0e (by omega)]⟩
def Inv.more{C}{G}{M}{w}(hi:Inv C G M w)(nb:Nat)(h:Nat->Option Addr×Nat)(t:Nat):Inv C (G.more nb h t) (M++[.gone]) w:=by
 have c:=G.le_more nb h t;have a:∀j x,(M++[A0p.gone])[j]?=some x->(j<G.n/\M[j]?=some x)\/x=A0p.gone:=by
  intro j x h;by_cases hj:j<M.length
  .left;exact⟨by rw[hi.n];exact hj,by rwa[Z0j hj]at h⟩
  .right;rw[Z1m (by omega)]at h;have:=Z3c h;simpa using this
 have ob:∀k x b,k<G.n->(A3i (G.more nb h t) k x b<->A3i G k x b):=λk x b hk=>by
  have:k≠G.n:=by omega
  cases x<;>simp[A3i,A0m.more,this]
 refine⟨by simpa[A0m.more]using hi.n,hi.st,hi.keep,?_,?_,λg=>Rep.mono c _ _ (hi.gl g),hi.tab_le c⟩
 .intro j x hj;rcases a j x hj with⟨f,h⟩|rfl
  ·(have d:j≠G.n:=by omega);exact(hi.obj j x h).keeps c f (by simp[A0m.more,d]) (by simp[A0m.more,d]) (λ_ _ _ _ h=>h) (λ_=>rfl) (λ_ _=>rfl)
  .trivial
 .intro i j x y b hx hy ox oy;rcases a i x hx with⟨hl,h⟩|rfl
  .rcases a j y hy with⟨e,h'⟩|rfl
   .rw[ob i x b hl]at ox;rw[ob j y b e]at oy;exact hi.apart i j x y b h h' ox oy
   .exact oy.elim
  .exact ox.elim
def Inv.world{C:Ctx}{G:A0m}{M:Mem}{w w':World}(hi:Inv C G M w)(h:w'.heap=w.heap):Inv C G M w':=by
 refine⟨hi.n,λb i v hv=>?_,λb o ho=>?_,λk o hk=>?_,hi.apart,hi.gl,hi.tab⟩
 .have:=hi.st b i v hv;simpa[World.cell?,h]using this
 .rw[h];exact hi.keep b o ho
 .exact(hi.obj k o hk).keeps (.refl _) (by rw[hi.n];exact A0r hk) rfl ⟨rfl,rfl⟩ (λ_ _ _ _ h=>h) (λ_=>rfl) (λ_ _=>by rw[h])
def Env.put(T:Env)(d:Option Nat)(v:AV):Env:=match d with
 |none=>T
 |some d=>λj=>if j=d then v else T j
@[simp] def Env.put_none(T:Env)(v:AV):T.put none v=T:=rfl
def Env.put_some(T:Env)(d:Nat)(v:AV)(j:Nat):T.put (some d) v j=if j=d then v else T j:=rfl
def Env.of(args:List AV):Env:=λi=>args.getD i .poison
structure A2S (G:A0m) (N:Nat) (T:Env) (a:Act):Prop where
 defers:a.defers=[]
 size:a.tmps.size=N
 at_:∀i,i<N->Rep G (T i) (a.tmps.getD i undef)
def A2S.mono{G G'}(h:G.le G'){N}{T}{a}(k:A2S G N T a):A2S G' N T a:=⟨k.defers,k.size,λi hi=>Rep.mono h _ _ (k.at_ i hi)⟩
def A2S.put{G}{N}{T}{a}(k:A2S G N T a){d}{v}{x}(hv:Rep G v x):A2S G N (T.put d v) (a.put d x):=by
 cases d with
 |none=>exact k
 |some d=>
  refine⟨k.defers,by simpa[Act.put]using k.size,λi hi=>?_⟩;have h0:=k.at_ i hi;have hs:=k.size;rw[Env.put_some];by_cases e:i=d
  .subst e;rw[Z0d rfl];simpa[Act.put,Array.getD,hi,hs]using hv
  .rw[Z0e e];have b:d≠i:=λh=>e h.symm;simpa[Act.put,Array.getD,hi,hs,Array.getElem_setIfInBounds,b]using h0
def A2S.of{G}{args}{vs}(n:Nat)(k:A0q G args vs):
 A2S G (vs.length+n) (Env.of args) {tmps:=vs.toArray++Array.replicate n undef,defers:=[]}:=by
 refine⟨rfl,by simp,λi hi=>?_⟩
 by_cases h:i<args.length
 .obtain⟨y,hy,hr⟩:=k.get (i:=i) (c:=args[i]) (by simp[h]);have b:=k.length;have a:i<vs.length:=by omega
  have e1:Env.of args i=args[i]:=by simp[Env.of,h]
  rw[e1];have:vs[i]=y:=by rw[Z0m a]at hy;exact Z1Z hy
  simpa[Array.getD,a,Array.getElem_append,this,hi]using hr
 .have e1:Env.of args i=.poison:=by(have:args.length<=i:=by omega);simp[Env.of,List.getD,Z1i this]
  rw[e1];simp[Rep]
def Env.ev(C:Ctx)(T:Env):Operand->AV
 |.tmp t=>T t
 |.const v=>.val v
 |.global g=>C.gl g
 |.func f=>.func (.func f) [] []
def Operand.inside(N:Nat):Operand->Bool
 |.tmp t=>decide (t<N)
 |_=>true
def D2I{C}{G}{M}{w}{N}{T}{a}(hi:Inv C G M w)(he:A2S G N T a)(x:Operand)(hx:Operand.inside N x=true):Rep G (T.ev C x) (a.eval x):=by
 cases x with
 |tmp t=>simp only[Env.ev,Act.eval];exact he.at_ t (by simpa[Operand.inside]using hx)
 |const v=>simp[Env.ev,Act.eval,Rep]
 |global g=>exact hi.gl g
 |func f=>simp[Env.ev,Act.eval,Rep,A0q]
def B3c(C:Ctx)(N:Nat)(Q:Exit->Env->Mem->Prop)(G:A0m)(w:World):Exit->Act->World->Prop:=λe a' w'=>∃T' M' G',Q e T' M'/\G.le G'/\Inv C G' M' w'/\A2S G' N T' a'/\Ext w w'
def B3c.mono{C}{N}{Q:Exit->Env->Mem->Prop}{G G'}{w w'}(h:G.le G')(k:Ext w w'){e}{a}{v} (l:B3c C N Q G' w' e a v):B3c C N Q G w e a v:=by
 obtain⟨T',M',b,h1,h2,h3,h4,h5⟩:=l
 exact⟨T',M',b,h1,h.trans h2,h3,h4,k.trans h5⟩
def B3c.weaken{C}{N}{Q Q':Exit->Env->Mem->Prop}{G}{w}(h:∀e T M,Q e T M->Q' e T M){e}{a}{v} (l:B3c C N Q G w e a v):B3c C N Q' G w e a v:=by
 obtain⟨T',M',b,h1,h2⟩:=l
 exact⟨T',M',b,h _ _ _ h1,h2⟩
def AWp(C:Ctx)(N:Nat)(c:Code)(Q:Exit->Env->Mem->Prop)(T:Env)(M:Mem):Prop:=∀G w a,Inv C G M w->A2S G N T a->c.wp C.P (B3c C N Q G w) a w
def A0e(C:Ctx)(f:FuncId)(args:List AV)(M:Mem)(Q:AV->Mem->Prop):Prop:=∀G w (vs:List Value),Inv C G M w->A0q G args vs->Calls C.P f vs.toArray w λe w'=>∃r M' G' v,e=.returned v/\Q r M'/\G.le G'/\Inv C G' M' w'/\Rep G' r v/\Ext w w'
def A0e.mono{C}{f}{args}{M}{Q Q':AV->Mem->Prop}(h:A0e C f args M Q)(hq:∀r M',Q r M'->Q' r M'):A0e C f args M Q':=by intro G w vs hi hr;refine Z2D (h G w vs hi hr) ?_;rintro e w' ⟨r,M',G',v,rfl,h1,h2⟩;exact⟨r,M',G',v,rfl,hq _ _ h1,h2⟩
section control
variable {C:Ctx} {N:Nat} {Q Q':Exit->Env->Mem->Prop} {T:Env} {M:Mem}
def AWp.mono{c}(h:AWp C N c Q T M)(hq:∀e T M,Q e T M->Q' e T M):AWp C N c Q' T M:=λG w a hi he=>Z4o (h G w a hi he) λ_ _ _ l=>B3c.weaken hq l
def C3i(K:Env->Mem->Prop)(Q:Exit->Env->Mem->Prop):Exit->Env->Mem->Prop
 |.normal,T,M=>K T M
 |e,T,M=>Q e T M
def C3q(h:Q .normal T M):AWp C N .skip Q T M:=λG w a hi he=>wp_skip ⟨T,M,G,h,.refl _,hi,he,.refl _⟩
def C0w{l}(h:Q .normal T M):AWp C N (.label l) Q T M:=λG w a hi he=>wp_label ⟨T,M,G,h,.refl _,hi,he,.refl _⟩
def C4O{id}(h:Q (.exit id) T M):AWp C N (.exit id) Q T M:=λG w a hi he=>wp_exit ⟨T,M,G,h,.refl _,hi,he,.refl _⟩
def C8v(h:Q .ret T M):AWp C N .ret Q T M:=λG w a hi he=>wp_ret ⟨T,M,G,h,.refl _,hi,he,.refl _⟩
def C2a{x y}(h:AWp C N x (C3i (AWp C N y Q) Q) T M):AWp C N (.seq x y) Q T M:=by
 intro G w a hi he;refine wp_seq (Z4o (h G w a hi he) ?_);rintro e a' w' ⟨T',M',G',h1,h2,h3,h4,h5⟩;cases e with
 |normal=>exact Z4o (h1 G' w' a' h3 h4) λ_ _ _ l=>B3c.mono h2 h5 l
 |_=>exact⟨T',M',G',h1,h2,h3,h4,h5⟩
def A7y(id:Nat)(Q:Exit->Env->Mem->Prop):Exit->Env->Mem->Prop
 |.exit id',T,M=>if id'=id then Q .normal T M else Q (.exit id') T M
 |e,T,M=>Q e T M
def B2q{id}{c}(h:AWp C N c (A7y id Q) T M):AWp C N (.block id c) Q T M:=by
 intro G w a hi he;refine wp_block (Z4o (h G w a hi he) ?_);rintro e a' w' ⟨T',M',G',h1,h2⟩;cases e with
 |exit id'=>
  simp only[A7y,Exit.inBlock]at h1|-;by_cases e:id'=id
  .rw[Z0d e]at h1|-;exact⟨T',M',G',h1,h2⟩
  .rw[Z0e e]at h1|-;exact⟨T',M',G',h1,h2⟩
 |_=>exact⟨T',M',G',h1,h2⟩
def B9r{c}{x y}{t}(b:Operand.inside N c=true)(hc:T.ev C c=.val (.bool t))(ht:t=true->AWp C N x Q T M)(hf:t=false->AWp C N y Q T M):AWp C N (.cond c x y) Q T M:=by intro G w a hi he;have h:=D2I hi he c b;rw[hc]at h;simp only[Rep]at h;exact wp_cond_split h (λe=>ht e G w a hi he) (λe=>hf e G w a hi he)
def D2M{c}(I:Env->Mem->Prop)(μ:Env->Mem->Nat)(h0:I T M) (f:∀T M,I T M->AWp C N c (C3i (λT' M'=>I T' M'/\μ T' M'<μ T M) Q) T M):AWp C N (.loop c) Q T M:=by
 intro G w a hi he b k cs
 have key:∀n T M G w a,μ T M=n->I T M->Inv C G M w->A2S G N T a->
  ∃e a' w',B3c C N Q G w e a' w'/\Arrives C.P (lone (b.at a (.code c::.inLoop c::k)) cs w) b k cs e a' w':=by
  intro n
  induction n using Nat.strongRecOn with
  |_ n ih=>
   intro T M G w a hn hI hi he
   obtain⟨e,a₁,w₁,hq,d⟩:=f T M hI G w a hi he b (.inLoop c::k) cs
   obtain⟨T',M',G',h1,h2,h3,h4,h5⟩:=hq
   cases e with
   |normal=>
    obtain⟨j,i⟩:=h1
    obtain⟨e₂,a₂,w₂,h,g⟩:=ih (μ T' M') (hn▸i) T' M' G' w₁ a₁ rfl j h3 h4
    exact⟨e₂,a₂,w₂,B3c.mono h2 h5 h,.of_steps (Steps.trans d (.one step_inLoop)) g⟩
   |exit id=>exact⟨_,a₁,w₁,⟨T',M',G',h1,h2,h3,h4,h5⟩,.pass (x:=.inLoop c) rfl (λ_ _=>.inl (by simp)) d⟩
   |goto l=>exact⟨_,a₁,w₁,⟨T',M',G',h1,h2,h3,h4,h5⟩,.pass (x:=.inLoop c) rfl (λ_ _=>.inl (by simp)) d⟩
   |ret=>exact⟨_,a₁,w₁,⟨T',M',G',h1,h2,h3,h4,h5⟩,.pass (x:=.inLoop c) rfl (λ_ _=>.inl (by simp)) d⟩
   |panic ch=>exact⟨_,a₁,w₁,⟨T',M',G',h1,h2,h3,h4,h5⟩,.pass (x:=.inLoop c) rfl (λ_ _=>.inl (by simp)) d⟩
   |outgrown=>exact⟨_,a₁,w₁,⟨T',M',G',h1,h2,h3,h4,h5⟩,.pass (x:=.inLoop c) rfl (λ_ _=>.inl (by simp)) d⟩
 obtain⟨e,a',w',hq,d⟩:=key _ T M G w a rfl h0 hi he
 exact⟨e,a',w',hq,.of_steps (.one step_loop) d⟩
end control
def A1e(P:Program)(t:TypeId):Option Nat:=(P.info? t).map (·.size)
def A2v(P:Program)(t:TypeId):Option Bool:=(P.underlying t).map λd=>match d with|.struct _|.array _ _=>true|_=>false
def C2R(P:Program)(t:TypeId):Option Nat:=(P.info? t).map (·.bytes)
def A0S(P:Program)(t:TypeId):Option TypeId:=match P.underlying t with|some (.slice e)=>some e|_=>none
def A1D(P:Program)(t:TypeId)(f:Nat):Option Nat:=match P.underlying t with
 |some (.struct fs)=>match fs[f]? with
  |some x=>match A1e P x.type with
   |some 0=>none
   |some _=>some x.offset
   |none=>none
  |none=>none
 |_=>none
section
variable {P:Program}
def A1P{t:TypeId}{n}(h:A1e P t=some n)(w:World):(sizeOf t).run P w=.ok n w:=by
 unfold A1e at h;cases hi:P.info? t with
 |none=>simp[hi]at h
 |some i=>simp[hi]at h;simp[sizeOf,typeInfo,hi,h]
def B2t{t:TypeId}{b}(h:A2v P t=some b)(w:World):(isAgg t).run P w=.ok b w:=by
 unfold A2v at h;cases hi:P.underlying t with
 |none=>simp[hi]at h
 |some d=>simp[hi]at h;simp only[isAgg,Z0H,Z0t hi,Z0y];subst h;cases d<;>rfl
def A2i{t e:TypeId}(h:A0S P t=some e):P.underlying t=some (.slice e):=by
 unfold A0S at h;split at h
 .rename_i e' he;simp at h;subst h;exact he
 .simp at h
end
def A1m(P:Program)(t:TypeId)(cs:List AV):Option AV:=
 match A2v P t,A1e P t with
 |some true,some n=>if n<=cs.length then some (.agg (cs.take n))else none
 |some false,some _=>match cs with|c::_=>some c|[]=>none
 |_,_=>none
def A3g(M:Mem):AV->Option (List AV)
 |.cptr cs=>some cs
 |.ptr b off=>match M[b]? with
  |some (.cells _ cs)=>if off<=cs.length then some (cs.drop off)else none
  |_=>none
 |.vptr f g off=>match M[f]? with
  |some (.vec _ sz cs _ hist)=>match hist.lookup g with
   |some n=>some ((cs.take (n*sz)).drop off)
   |none=>none
  |_=>none
 |_=>none
def A3a{l:List (Nat×Nat)}{g n:Nat}(h:l.lookup g=some n):(g,n)∈l:=by
 induction l with
 |nil=>simp at h
 |cons x xs ih=>
  obtain⟨a,b⟩:=x;simp only[List.lookup_cons]at h;split at h
  .rename_i e;simp only[Z2E]at e;simp only[Z0a]at h;subst e h;exact Z3g
  .exact Z2l _ (ih h)
def C0Z{C:Ctx}{G:A0m}{M:Mem}{w:World}(hi:Inv C G M w){p:AV}{x:Value}(hr:Rep G p x){cs:List AV}(h:A3g M p=some cs):∃(b i:Nat) (vs:List Value),x=.pointer (some ⟨b,i,none⟩)/\A0q G cs vs/\(∀v∈vs,v.oneCell'=true)/\∀j v,vs[j]?=some v->w.cell? ⟨b,i+j,none⟩=some v:=by
 cases p with
 |cptr ds=>
  simp only[A3g,Z0a]at h
  subst h
  simp only[Rep]at hr
  obtain⟨b,i,rfl,hm⟩:=hr
  obtain⟨vs,h1,h2,h3,h4⟩:=hm.vals
  exact⟨b,i,vs,rfl,h1,h3,λj v hv=>hi.st _ _ _ (h4 j v hv)⟩
 |ptr b off=>
  simp only[A3g]at h
  simp only[Rep]at hr
  obtain⟨hb,rfl⟩:=hr
  split at h
  .rename_i ty ds hd;split at h
   .rename_i hle;simp only[Z0a]at h;subst h;obtain⟨vs,hh,h1,h2,h3⟩:=hi.obj b _ hd;refine⟨G.blk b,off,vs.toList.drop off,rfl,h1.drop off,λv hv=>h2 v (Z1z hv),?_⟩;intro j v hv;rw[Z1a]at hv;simpa[World.cell?,hh]using hv
   .simp at h
  .simp at h
 |vptr f g off=>
  simp only[A3g]at h
  simp only[Rep]at hr
  obtain⟨hf,hg,a,cap,hd,rfl⟩:=hr
  split at h
  .rename_i ty sz ds g' hist hM;split at h
   .rename_i n hn;simp only[Z0a]at h;subst h;obtain⟨_,h2,_⟩:=hi.obj f _ hM;obtain⟨_,_,b,o,c,vs,q1,q2,q3,q4,q5,q6,q7,q8,q9⟩:=h2 g n (A3a hn);rw[hd]at q1;simp only[Z0b,Z0a]at q1;obtain⟨rfl,rfl⟩:=q1;refine⟨b,o+off,((vs.toList.drop o).take (n*sz)).drop off,rfl,q6.drop off,λv hv=>q7 v (Z1z hv),?_⟩;intro j v hv;rw[Z1a,Z0R]at hv;split at hv
    .rw[Z1a]at hv;rw[Z2G _ _ _ _ _ _ q4,show o+off+j=o+(off+j)from by omega];simpa using hv
    .simp at hv
   .simp at h
  .simp at h
 |_=>simp[A3g]at h
def B3D{C}{G}{M}{w}(hi:Inv C G M w){p}{x}(hr:Rep G p x){t:TypeId}{cs}{r} (h:A3g M p=some cs)(hl:A1m C.P t cs=some r):∃v,(Instr.loadAt t x).run C.P w=.ok v w/\Rep G r v:=by
 obtain⟨b,i,vs,rfl,h1,h2,h3⟩:=C0Z hi hr h
 have a:=h1.length
 unfold A1m at hl
 split at hl
 .rename_i n ha hs;split at hl
  .rename_i hle;simp only[Z0a]at hl;subst hl;have hc:=run_loadCells_list (P:=C.P) w ⟨b,i,none⟩ (vs.take n) (λj v hv=>by
    rw[Z0R]at hv;split at hv
    .rw[Z1x];exact h3 j v hv
    .simp at hv)
   (have hn:(vs.take n).length=n:=by rw[Z0I];omega);rw[hn]at hc
   refine⟨.agg (vs.take n).toArray,?_,?_⟩
   .simp only[Instr.loadAt,Instr.sureAddr,loadVar,Z0H,Z0S,Z0y,B2t ha,A1P hs,Z0G,hc]
   .simp only[Rep];exact⟨_,rfl,by simpa using h1.take n,λv hv=>h2 v (Z1r (by simpa using hv))⟩
  .simp at hl
 .rename_i n ha hs;split at hl
  .rename_i c cs';simp only[Z0a]at hl;subst hl;simp only[A0q]at h1;obtain⟨y,d,rfl,h5,h6⟩:=h1;refine⟨y,?_,h5⟩;have h0:=h3 0 y rfl;simp only[Z0V]at h0;simp[Instr.loadAt,Instr.sureAddr,loadVar,B2t ha,run_load,h0]
  .simp at hl
 .simp at hl
def AV.one:AV->Bool
 |.val v=>v.oneCell'
 |.poison|.agg _|.tuple _=>false
 |_=>true
def AV.cells:AV->List AV
 |.agg cs=>cs
 |.val (.agg ys)=>ys.toList.map .val
 |v=>[v]
def AV.storable:AV->Bool
 |.agg _=>true
 |.val (.agg ys)=>ys.toList.all (·.oneCell')
 |v=>v.one
def Rep.one{G}{a}{x}(h:Rep G a x)(h1:a.one=true):x.oneCell'=true:=by
 cases a<;>simp only[AV.one,Z0E]at h1<;>simp only[Rep]at h
 .subst h;exact h1
 .obtain⟨_,rfl⟩:=h;rfl
 .obtain⟨_,_,rfl,_⟩:=h;rfl
 .obtain⟨_,_,rfl,_⟩:=h;rfl
 .obtain⟨_,_,_,_,_,_,_,_,rfl,_⟩:=h;rfl
 .obtain⟨_,_,_,_,_,rfl⟩:=h;rfl
 .obtain⟨_,rfl⟩:=h;rfl
 .obtain⟨_,_,rfl,_⟩:=h;rfl
 .obtain⟨_,rfl,_⟩:=h;rfl
def Rep.cells{G}{a}{x}(h:Rep G a x)(h1:a.storable=true):A0q G a.cells x.cells.toList/\∀v∈x.cells.toList,v.oneCell'=true:=by
 by_cases ha:∃cs,a=.agg cs
 .obtain⟨cs,rfl⟩:=ha;simp only[Rep]at h;obtain⟨ys,rfl,h2,h3⟩:=h;exact⟨by simpa[AV.cells,Value.cells]using h2,by simpa[Value.cells]using h3⟩
 by_cases hv:∃ys,a=.val (.agg ys)
 .obtain⟨ys,rfl⟩:=hv;simp only[Rep]at h;subst h;simp only[AV.storable,Z0r]at h1;refine⟨?_,by simpa[Value.cells]using h1⟩;show A0q G (ys.toList.map .val) ys.toList;generalize ys.toList=l;induction l with
  |nil=>simp[A0q]
  |cons y l ih=>exact⟨y,l,rfl,rfl,ih⟩
 .have b:a.one=true:=by
   cases a with
   |val v=>cases v<;>simp_all [AV.storable,AV.one]
   |_=>simp_all [AV.storable,AV.one]
  have hx:=h.one b;have hc:x.cells=#[x]:=by cases x<;>simp_all [Value.cells,Value.oneCell']
  have c:a.cells=[a]:=by
   cases a with
   |val v=>cases v<;>simp_all [AV.cells]
   |_=>simp_all [AV.cells]
  rw[hc,c];exact⟨by simp[A0q,h],by simpa using hx⟩
def A0d(cs:List AV)(off:Nat)(news:List AV):List AV:=cs.take off++news++cs.drop (off+news.length)
def Inv.setBox{C}{G}{M}{w}(hi:Inv C G M w){k}{cs cs'}{t:TypeId}(hk:M[k]?=some (.cells t cs)){vs}
 (hh:w.heap[G.blk k]?=some (.cells vs t (0,0))){vs'}(hr:A0q G cs' vs'.toList)(h1:∀v∈vs'.toList,v.oneCell'=true):
 Inv C G (M.set k (.cells t cs')) (w.setRow (G.blk k) vs'):=by
 obtain⟨_,_,_,_,c,a⟩:=hi.obj k _ hk
 refine hi.step k (G.blk k) hk (.inl rfl) (.refl _) rfl (λ_=>rfl) (λ_ _=>⟨rfl,rfl⟩) (λb i v h=>.inl h) (λ_=>rfl) (λb _ hne=>Z3z _ _ _ _ hne) (λi v h=>by rw[c i]at h;simp at h) (λo h=>by rw[a]at h;simp at h) ⟨vs',Z4i w _ vs vs' t _ hh,hr,h1,c,a⟩ (λb hb=>.inl hb)
def Ext.setRow(w:World)(g:Nat)(c:Array Value):Ext w (w.setRow g c):=⟨rfl,rfl,rfl,by simp[World.setRow]⟩
def C3G{C}{G}{M}{w}(hi:Inv C G M w){b off}{x}(hr:Rep G (.ptr b off) x){t:TypeId}{cs}{v}{y}{bt:TypeId}(hv:Rep G v y)
 (hb:M[b]?=some (.cells bt cs))(hs:v.storable=true)(i:A1e C.P t=some v.cells.length)(j:off+v.cells.length<=cs.length):
 ∃w',(Instr.storeAt t x y).run C.P w=.ok () w'/\Inv C G (M.set b (.cells bt (A0d cs off v.cells))) w'/\Ext w w':=by
 simp only[Rep]at hr
 obtain⟨k,rfl⟩:=hr
 obtain⟨vs,hh,h1,h2,h3,h4⟩:=hi.obj b _ hb
 obtain⟨h,g⟩:=hv.cells hs
 have d:=h1.length
 have a:=h.length
 have f:=Z3o C.P (G.blk b) off bt y.cells.toList 0 vs w hh (by simp at d a|-;omega) g
 simp only[Z0V]at f
 refine⟨_,?_,hi.setBox hb hh (vs':=(vs.toList.take off++y.cells.toList++vs.toList.drop (off+y.cells.toList.length)).toArray) ?_ ?_,Ext.setRow _ _ _⟩
 .have c:y.cells.size=v.cells.length:=by simpa using a
  simp only[Instr.storeAt,Instr.sureAddr,storeVar,Z0H,Z0S,Z0y,A1P i,c,ne_eq,Z3V,Z0Y,f]
 .simp only[A0d];have e:y.cells.toList.length=v.cells.length:=a;rw[e];exact((h1.take off).append h).append (h1.drop _)
 .intro u hu;simp only[Z1b]at hu;rcases hu with(hu|hu)|hu
  .exact h2 u (Z1r hu)
  .exact g u hu
  .exact h2 u (Z1z hu)
def A0q.of_get{G}:∀{cs:List AV} {ys:List Value},cs.length=ys.length->(∀(i:Nat) (c:AV) (y:Value),cs[i]?=some c->ys[i]?=some y->Rep G c y)->A0q G cs ys
 |[],[],_,_=>by simp[A0q]
 |[],_::_,h,_=>by simp at h
 |_::_,[],h,_=>by simp at h
 |c::cs,y::ys,h,k=>by simp only[A0q];exact⟨y,ys,rfl,k 0 c y rfl rfl,A0q.of_get (by simpa using h) (λi c y h1 h2=>k (i+1) c y (by simpa using h1) (by simpa using h2))⟩
def A0q.get2{G:A0m}{cs:List AV}{ys:List Value}(h:A0q G cs ys){i:Nat}{c:AV}{y:Value}(h1:cs[i]?=some c)(h2:ys[i]?=some y):Rep G c y:=by obtain⟨z,hz,hr⟩:=h.get h1;rw[h2]at hz;simp only[Z0a]at hz;subst hz;exact hr
def B5k{cs news}{off}(h:off+news.length<=cs.length):(A0d cs off news).length=cs.length:=by simp only[A0d,Z0z,Z0I,Z1e];omega
def A9l{α:Type}{cs news:List α}{off i:Nat}(h:off+news.length<=cs.length):(cs.take off++news++cs.drop (off+news.length))[i]?=if off<=i/\i<off+news.length then news[i-off]? else cs[i]?:=by
 by_cases h1:i<off
 .rw[Z0e (by omega),Z0O,Z0j (by rw[Z0I];omega),Z0R,Z0d h1]
 .by_cases h2:i<off+news.length
  .rw[Z0d (by omega),Z0O,Z1m (by rw[Z0I];omega),Z0j (by rw[Z0I];omega),Z0I];congr 1;omega
  .rw[Z0e (by omega),Z1m (by rw[Z0z,Z0I];omega),Z1a];congr 1;rw[Z0z,Z0I];omega
def A2q(sz g off:Nat)(hist:List (Nat×Nat)):List (Nat×Nat):=hist.filter λx=>x.1==g||decide (x.2*sz<=off)
def B0k{C:Ctx}{G:A0m}{M:Mem}{w:World}(hi:Inv C G M w){f g off:Nat}{x:Value}(hr:Rep G (.vptr f g off) x){ty:TypeId}{sz g' n:Nat}{cs:List AV}{k:List (Nat×Nat)}{news:List AV}{ys:List Value}(a6:A0q G news ys)(a5:∀u∈ys,u.oneCell'=true)
 (hM:M[f]?=some (.vec ty sz cs g' k))(hn:k.lookup g=some n)(ad:off+news.length<=n*sz):
 ∃a w',x=.pointer (some a)/\(storeCells a ys).run C.P w=.ok () w'/\Inv C G (M.set f (.vec ty sz (A0d cs off news) g' (A2q sz g off k))) w'/\Ext w w':=by
 simp only[Rep]at hr
 obtain⟨hf,hg,a,cap,hd,rfl⟩:=hr
 have d:=a6.length
 obtain⟨p0,p2,p3⟩:=hi.obj f _ hM
 have q:=A3a hn
 obtain⟨_,ag,b,o,ae,vs,q1,q2,q3,q4,q5,q6,q7,q8,q9⟩:=p2 g n q
 have ah:=q1
 rw[hd]at q1
 simp only[Z0b,Z0a]at q1
 obtain⟨rfl,rfl⟩:=q1
 have af:n*sz<=cap*sz:=Z1h _ q2
 have a0:=Z3o C.P b (o+off) ty ys 0 vs w q4 (by rw[d];omega) a5
 simp only[Z0V,d]at a0
 have p:=Z4i w b vs (vs.toList.take (o+off)++ys++vs.toList.drop (o+off+news.length)).toArray ty (0,0) q4
 generalize s:(vs.toList.take (o+off)++ys++vs.toList.drop (o+off+news.length))=nl at a0 p
 have ac:nl.length=vs.size:=by rw[<-s];simp only[Z0z,Z0I,Z1e,Z1E,d];omega
 have a9:∀i,nl[i]?=if o+off<=i/\i<o+off+news.length then ys[i-(o+off)]? else vs.toList[i]?:=by intro i;have:=A9l (cs:=vs.toList) (news:=ys) (off:=o+off) (i:=i) (by rw[d];simp;omega);rw[d]at this;rw[<-s];exact this
 have a8:A3i G f (.vec ty sz cs g' k) b:=⟨g,n,_,q,by rw[hd],rfl⟩
 have aa:=hi.step (w':=w.setRow b nl.toArray) (o':=.vec ty sz (A0d cs off news) g' (A2q sz g off k)) f b hM (.inl a8) (.refl _) rfl (λ_=>rfl) (λ_ _=>⟨rfl,rfl⟩) (λ_ _ _ h=>.inl h) (λ_=>rfl)
  (λb' _ hne=>Z3z _ _ _ _ hne) (λi v h=>by rw[q8 i]at h;simp at h) (λo h=>by rw[q9]at h;simp at h)
  ⟨p0,λh' n' hm=>?_,λh1 n1 h2 n2 a1 a2 c1 c2 m1 m2=>p3 h1 n1 h2 n2 a1 a2 c1 c2 ((Z1G.1 m1).1) ((Z1G.1 m2).1)⟩
  (λb' ⟨h1,n1,a1,m1,e1,e2⟩=>.inr ⟨h1,n1,a1,(Z1G.1 m1).1,e1,e2⟩)
 .exact⟨_,_,rfl,a0,aa,Ext.setRow _ _ _⟩
 .have a7:=(Z1G.1 hm).1;have t:h'=g\/n'*sz<=off:=by simpa using(Z1G.1 hm).2
  obtain⟨r0,r1,b',o',m,vs',s1,s2,s3,s4,s5,s6,s7,s8,s9⟩:=p2 h' n' a7;have r:(A0d cs off news).length=cs.length:=B5k (by omega);refine⟨r0,by rw[r];exact r1,?_⟩;have ab:n'*sz<=m*sz:=Z1h _ s2;by_cases e:b'=b
  .subst e;have eo:(⟨b',o',none⟩:Addr)=⟨b',o,none⟩:=p3 h' n' g n _ _ _ _ a7 q s1 hd rfl;simp only[Z3q,Z2u,Z2e]at eo;subst eo;rw[q4]at s4;simp only[Z0a,Obj.cells.injEq,Z2e]at s4;subst s4;have y:=s6.length;simp only[Z0I,Z1e,Z1E]at y;have gl:∀i,i<n'*sz->((nl.drop o').take (n'*sz))[i]?=if off<=i/\i<off+news.length then ys[i-off]? else((vs.toList.drop o').take (n'*sz))[i]?:=by
    intro i j;rw[Z0R,Z0d j,Z1a,a9,Z0R,Z0d j,Z1a];by_cases hc:off<=i/\i<off+news.length
    .rw[Z0d (by omega),Z0d hc];congr 1;omega
    .rw[Z0e (by omega),Z0e hc]
   refine⟨b',o',m,nl.toArray,s1,s2,s3,p,by simp only[Z2m];omega,?_,?_,s8,s9⟩
   .refine A0q.of_get ?_ ?_
    .simp only[Z0I,Z1e,r];omega
    .intro i c z hc hz;(have j:i<n'*sz:=by have:=A0r hz;simp only[Z0I]at this;omega);have a3:=gl i j;rw[show(nl.toArray.toList:List Value)=nl from rfl]at hz;rw[a3]at hz;rw[Z0R,Z0d j]at hc;simp only[A0d]at hc;rw[A9l (by omega)]at hc;by_cases hcc:off<=i/\i<off+news.length
     .rw[Z0d hcc]at hz hc;exact a6.get2 hc hz
     .rw[Z0e hcc]at hz hc;exact s6.get2 (by rw[Z0R,Z0d j];exact hc) hz
   .intro u hu;obtain⟨i,l⟩:=List.mem_iff_getElem?.1 hu;(have j:i<n'*sz:=by have:=A0r l;simp only[Z0I]at this;omega);have a3:=gl i j;rw[show(nl.toArray.toList:List Value)=nl from rfl,a3]at l;by_cases hcc:off<=i/\i<off+news.length
    .rw[Z0d hcc]at l;exact a5 u (Z3c l)
    .rw[Z0e hcc]at l;exact s7 u (Z3c l)
  .have a4:n'*sz<=off:=by
    rcases t with h|h
    .subst h;rw[hd]at s1;simp only[Z0b,Z0a,Z3q]at s1;exact absurd s1.1.1.symm e
    .exact h
   refine⟨b',o',m,vs',s1,s2,s3,by rw[Z3z _ _ _ _ e];exact s4,s5,?_,s7,s8,s9⟩;(have:(A0d cs off news).take (n'*sz)=cs.take (n'*sz):=by simp only[A0d];rw[Z0O,Z2T (by rw[Z0I];omega),Z2V,Z2g a4]);rw[this];exact s6
def C2r{C}{G}{M}{w}(hi:Inv C G M w){f g off}{x}(hr:Rep G (.vptr f g off) x){t:TypeId}{ty:TypeId}{sz g' n}{cs}{hist}{v}{y}(hv:Rep G v y)
 (hM:M[f]?=some (.vec ty sz cs g' hist))(hn:hist.lookup g=some n)(hs:v.storable=true)(h:A1e C.P t=some v.cells.length)(c:off+v.cells.length<=n*sz):
 ∃w',(Instr.storeAt t x y).run C.P w=.ok () w'/\Inv C G (M.set f (.vec ty sz (A0d cs off v.cells) g' (A2q sz g off hist))) w'/\Ext w w':=by
 obtain⟨e,i⟩:=hv.cells hs
 obtain⟨a,w',rfl,j,h2,h3⟩:=B0k hi hr e i hM hn c
 refine⟨w',?_,h2,h3⟩
 have b:=e.length
 have d:y.cells.size=v.cells.length:=by simpa using b
 simp only[Instr.storeAt,Instr.sureAddr,storeVar,Z0H,Z0S,Z0y,A1P h,d,ne_eq,Z3V,Z0Y,j]
def A0m.fix(G:A0m)(nb:Nat)(vs:List Value):A0m:={G with st:=λb i=>if b=nb then vs[i]? else G.st b i}
def Inv.st_lt{C}{G}{M}{w}(hi:Inv C G M w){b i}{v}(h:G.st b i=some v):b<w.heap.size:=Z2q w ⟨b,i,none⟩ (hi.st b i v h)
def Inv.keep_lt{C}{G}{M}{w}(hi:Inv C G M w){b}{o}(h:G.keep b=some o):b<w.heap.size:=(Z1N.1 (hi.keep b o h)).1
def A0m.le_fix{C}{G}{M}{w}(hi:Inv C G M w)(vs:List Value):G.le (G.fix w.heap.size vs):=⟨Z0u _,λ_ _=>rfl,λb i v h=>by have:=hi.st_lt h;simp only[A0m.fix];rw[Z0e (by omega)];exact h,λ_ _ h=>h,λ_ _=>Z0u _,λ_ _ _ _=>rfl⟩
def A3I(w:World)(o:Obj)(b:Nat)(h:b<w.heap.size):(w.alloc o).heap[b]?=w.heap[b]?:=by show(w.heap.push o)[b]?=_;rw[Array.getElem?_push,Z0e (by omega)]
def B7s(w:World)(o:Obj)(b i:Nat)(h:b<w.heap.size):(w.alloc o).cell? ⟨b,i,none⟩=w.cell? ⟨b,i,none⟩:=by have:=A3I w o b h;simp[World.cell?,this]
def Inv.fix{C}{G}{M}{w}(hi:Inv C G M w)(c:Array Value)(t:TypeId)(vs:List Value)(l:∀(i:Nat) (v:Value),vs[i]?=some v->c[i]?=some v):Inv C (G.fix w.heap.size vs) M (w.alloc (.cells c t)):=by
 have d:=A0m.le_fix hi vs
 have m:∀b i v,(G.fix w.heap.size vs).st b i=some v->(b=w.heap.size/\vs[i]?=some v)\/(b<w.heap.size/\G.st b i=some v):=by
  intro b i v h;simp only[A0m.fix]at h;by_cases e:b=w.heap.size
  .rw[Z0d e]at h;exact .inl ⟨e,h⟩
  .rw[Z0e e]at h;exact .inr ⟨hi.st_lt h,h⟩
 have a:=λb (h:b<w.heap.size)=>A3I w (.cells c t) b h
 refine⟨hi.n,?_,?_,?_,?_,λg=>Rep.mono d _ _ (hi.gl g),hi.tab_le d⟩
 .intro b i v hv;rcases m b i v hv with⟨rfl,h⟩|⟨f,h⟩
  .have:=Z2a w (.cells c t);rw[Z2G _ _ _ _ _ _ this];exact l i v h
  .rw[B7s _ _ _ _ f];exact hi.st b i v h
 .intro b o ho;rw[a b (hi.keep_lt ho)];exact hi.keep b o ho
 .intro k o hk;have ho:=hi.obj k o hk;refine ho.keeps d (by rw[hi.n];exact A0r hk) rfl ⟨rfl,rfl⟩ (λb hb i v hv=>?_) (λ_=>rfl) (λb hb=>a b (ho.owns_lt hb));have f:=ho.owns_lt hb;simp only[A0m.fix]at hv;rwa[Z0e (by omega)]at hv
 .intro i j x y b hx hy ox oy;have ob:∀k x b,A3i (G.fix w.heap.size vs) k x b<->A3i G k x b:=λk x b=>by cases x<;>exact Iff.rfl
  rw[ob]at ox oy;exact hi.apart i j x y b hx hy ox oy
def Ext.alloc(w:World)(o:Obj):Ext w (w.alloc o):=⟨rfl,rfl,rfl,by simp⟩
def Ext.drew(w:World):Ext w w.drew:=⟨rfl,rfl,rfl,Z0u _⟩
def A0M.fix{C}{G}{M}{w}(hi:Inv C G M w){cs}{vs}(hr:A0q G cs vs)(h1:∀v∈vs,v.oneCell'=true):A0M (G.fix w.heap.size vs) cs w.heap.size 0:=A0M.mk (A0q.mono (A0m.le_fix hi vs) _ _ hr) h1 (λj v hv=>by simp only[A0m.fix,Z0G,Z0K];exact hv)
def Inv.newBox{C}{G}{M}{w}(hi:Inv C G M w){cs}{vs}(t:TypeId)(hr:A0q G cs vs.toList)(h1:∀v∈vs.toList,v.oneCell'=true):∃G',Inv C G' (M++[.cells t cs]) (w.alloc (.cells vs t))/\G.le G'/\G'.blk M.length=w.heap.size/\M.length<G'.n:=by
 have hm:=hi.more w.heap.size (λ_=>(none,0)) 0
 have hk:(M++[A0p.gone])[M.length]?=some .gone:=by simp
 have hb:(G.more w.heap.size (λ_=>(none,0)) 0).blk M.length=w.heap.size:=by simp[A0m.more,hi.n]
 have c:∀i,(G.more w.heap.size (λ_=>(none,0)) 0).st w.heap.size i=none:=by
  intro i;cases h:G.st w.heap.size i with
  |none=>exact h
  |some v=>have:=hi.st_lt h;omega
 have a:(G.more w.heap.size (λ_=>(none,0)) 0).keep w.heap.size=none:=by
  cases h:G.keep w.heap.size with
  |none=>exact h
  |some v=>have:=hi.keep_lt h;omega
 have:=hm.step (w':=w.alloc (.cells vs t)) (o':=.cells t cs) M.length w.heap.size hk (.inr (Z0u _)) (.refl _) rfl (λ_=>rfl) (λ_ _=>⟨rfl,rfl⟩) (λ_ _ _ h=>.inl h) (λ_=>rfl)
  (λb hlt _=>A3I w _ b hlt) (λi v h=>by rw[c]at h;simp at h) (λo h=>by rw[a]at h;simp at h)
  ⟨vs,by rw[hb];exact Z2a w _,A0q.mono (G.le_more _ _ _) _ _ hr,h1,by rw[hb];exact c,by rw[hb];exact a⟩ (λb h=>.inl (by simp only[A3i,hb]at h;exact h))
 refine⟨_,?_,G.le_more _ _ _,hb,by simp[A0m.more,hi.n]⟩
 simpa using this
def Inv.newObj{C}{G}{M}{w}(hi:Inv C G M w)(o:Obj)(ao:A0p)(h:Nat->Option Addr×Nat)(t:Nat)
 (e:∀G',G.le G'->G'.blk M.length=w.heap.size->G'.hdr M.length=h->G'.top M.length=t->(∀i,G'.st w.heap.size i=none)->G'.keep w.heap.size=none->A5J G' (w.alloc o) M.length ao)
 (d:∀G' b,G'.blk M.length=w.heap.size->G'.hdr M.length=h->A3i G' M.length ao b->b=w.heap.size):
 ∃G',Inv C G' (M++[ao]) (w.alloc o)/\G.le G'/\G'.blk M.length=w.heap.size/\M.length<G'.n/\G'.hdr M.length=h/\G'.top M.length=t:=by
 have hm:=hi.more w.heap.size h t
 have hk:(M++[A0p.gone])[M.length]?=some .gone:=by simp
 have hb:(G.more w.heap.size h t).blk M.length=w.heap.size:=by simp[A0m.more,hi.n]
 have hh:(G.more w.heap.size h t).hdr M.length=h:=by simp[A0m.more,hi.n]
 have ht:(G.more w.heap.size h t).top M.length=t:=by simp[A0m.more,hi.n]
 have c:∀i,(G.more w.heap.size h t).st w.heap.size i=none:=by
  intro i;cases h:G.st w.heap.size i with
  |none=>exact h
  |some v=>have:=hi.st_lt h;omega
 have a:(G.more w.heap.size h t).keep w.heap.size=none:=by
  cases h:G.keep w.heap.size with
  |none=>exact h
  |some v=>have:=hi.keep_lt h;omega
 have:=hm.step (w':=w.alloc o) (o':=ao) M.length w.heap.size hk (.inr (Z0u _)) (.refl _) rfl (λ_=>rfl) (λ_ _=>⟨rfl,rfl⟩) (λ_ _ _ h=>.inl h) (λ_=>rfl)
  (λb hlt _=>A3I w _ b hlt) (λi v h=>by rw[c]at h;simp at h) (λo h=>by rw[a]at h;simp at h)
  (e _ (G.le_more _ _ _) hb hh ht c a) (λb h=>.inl (d _ b hb hh h))
 refine⟨_,?_,G.le_more _ _ _,hb,by simp[A0m.more,hi.n],hh,ht⟩
 simpa using this
def B0q:AV->Option (List (List AV)×Own)
 |.val (.slice none 0 0)=>some ([],.full)
 |.list _ rows own=>some (rows,own)
 |_=>none
def B0v(sz:Nat):AV->Prop
 |.list s _ _=>s=sz
 |_=>True
def B8t{C}{G}{M}{w}(hi:Inv C G M w){v}{x}{sz}{rows}{own}(hr:Rep G v x)(h:B0q v=some (rows,own))(hs:B0v sz v):∃base cap,x=.slice base rows.length cap/\rows.length<=cap/\cap<=maxLen/\(match base with|none=>rows=[]/\cap=0|some a=>(rows≠[]->a.spot=none)/\A0z G sz rows a.block a.off)/\A6j G own rows.length base cap:=by
 unfold B0q at h
 split at h
 .simp only[Z0a,Z0b]at h;obtain⟨rfl,rfl⟩:=h;simp only[Rep]at hr;subst hr;exact⟨none,0,rfl,Z0u _,by simp[maxLen],⟨rfl,rfl⟩,rfl⟩
 .simp only[Z0a,Z0b]at h;obtain⟨rfl,rfl⟩:=h;simp only[B0v]at hs;subst hs;simp only[Rep]at hr;exact hr
 .simp at h
def B3A{C:Ctx}{G:A0m}{M:Mem}{w:World}(hi:Inv C G M w){base:Option Addr}{sz cap:Nat}{rows:List (List AV)}
 (h:match base with|none=>rows=[]/\cap=0|some a=>(rows≠[]->a.spot=none)/\A0z G sz rows a.block a.off):
 ∃vs:List Value,A0q G rows.flatten vs/\vs.length=rows.length*sz/\(∀v∈vs,v.oneCell'=true)/\(∀r∈rows,r.length=sz)/\∀w',w'.heap=w.heap->(Builtin.firstCells sz rows.length (.slice base rows.length cap)).run C.P w'=.ok vs.toArray w':=by
 cases base with
 |none=>
  obtain⟨rfl,_⟩:=h
  exact⟨[],by simp[A0q],by simp,by simp,by simp,λw' _=>by simp[Builtin.firstCells]⟩
 |some a=>
  obtain⟨b,h⟩:=h
  obtain⟨hm,hl⟩:=A0z.flat h
  obtain⟨vs,h1,h2,h3,h4⟩:=hm.vals
  refine⟨vs,h1,by omega,h3,h.sizes,λw' hw=>?_⟩
  refine Z2r (P:=C.P) w' sz rows.length a rows.length cap vs (by omega) (λj v hv=>?_)
  have c:rows≠[]:=by intro e;subst e;have:=A0r hv;simp at h2;subst h2;simp at this
  have b:=b c
  have ea:a=⟨a.block,a.off,none⟩:=by cases a;simp_all
  rw[ea,Z1x]
  have:=hi.st _ _ _ (h4 j v hv)
  simpa[World.cell?,hw]using this
def A4v(P:Program)(u:TypeId):Prop:=(∃e2,P.underlying u=some (.slice e2))\/P.underlying u=some .string
section
variable {P:Program}
def B0g{t u e:TypeId}{ty:TypeId}{sz:Nat}{s x:Value}{base:Option Addr}{n cap:Nat}{w:World}(ht:P.underlying t=some (.slice e))(a:A1e P e=some sz)
 (hu:A4v P u)(hx:∀w,(Builtin.lenOf x).run P w=.ok 0 w)
 (b:(Builtin.firstCells sz 0 x).run P w=.ok #[] w)(c:n<=cap):(Builtin.append_ #[t,u] ty #[.slice base n cap,x]).run P w=.ok (.slice base n cap) w:=by
 obtain⟨e2,hu⟩|hu:=hu
 all_goals cases base<;>simp[Builtin.append_,Z0t ht,Z0t hu,A1P a,hx,b,c,storeCells]
def C2k{t u e:TypeId}{ty:TypeId}{sz}{x}{g n cap m}{w}(ht:P.underlying t=some (.slice e))(c:A1e P e=some sz)
 (hu:A4v P u)(hx:∀w,(Builtin.lenOf x).run P w=.ok m w)
 {news}(d:(Builtin.firstCells sz m x).run P w=.ok news.toArray w)(f:n+m<=cap){cur}{ct:TypeId}(hg:w.heap[g]?=some (.cells cur ct (0,0)))
 (a:n*sz+news.length<=cur.size)(h1:∀v∈news,v.oneCell'=true):
 (Builtin.append_ #[t,u] ty #[.slice (some ⟨g,0,none⟩) n cap,x]).run P w=.ok (.slice (some ⟨g,0,none⟩) (n+m) cap) (w.setRow g (cur.toList.take (n*sz)++news++cur.toList.drop (n*sz+news.length)).toArray):=by
 obtain⟨e2,hu⟩|hu:=hu
 all_goals
  have b:=Z3o P g (n*sz) ct news 0 cur w hg (by simpa using a) h1
  simp only[Z0V]at b
  simp[Builtin.append_,Z0t ht,Z0t hu,A1P c,hx,d,f,b,Z1x]
def B0e{t u e:TypeId}{ty:TypeId}{i:TypeInfo}{z x:Value}{base:Option Addr}{n cap m:Nat}{w:World}(ht:P.underlying t=some (.slice e))(hi:P.info? e=some i)(hz:i.zero=some z)
 (hu:A4v P u)(hx:∀w,(Builtin.lenOf x).run P w=.ok m w)
 {news olds:List Value}(d:(Builtin.firstCells i.size m x).run P w.drew=.ok news.toArray w.drew)(c:(Builtin.firstCells i.size n (.slice base n cap)).run P w.drew=.ok olds.toArray w.drew)
 (f:cap<n+m)(hb:(n+m)*i.bytes<=140737488355328)(g:n+m<=maxLen):
 (Builtin.append_ #[t,u] ty #[.slice base n cap,x]).run P w=.ok (.slice (some ⟨w.heap.size,0,none⟩) (n+m) (grownCap w (n+m) cap e)) (w.drew.alloc (.cells (olds.toArray++news.toArray++Builtin.zeroCells z.cells (grownCap w (n+m) cap e-(n+m))) e)):=by
 have hn:¬(n+m<=cap):=by omega
 have b:¬(9223372036854775807<((n:Int)+(m:Int))):=by simp only[maxLen]at g;omega
 have h:=growslice_fits f hb
 have a:¬(281474976710656<Builtin.nextslicecap (n+m) cap*i.bytes):=by omega
 obtain⟨e2,hu⟩|hu:=hu
 all_goals simp[Builtin.append_,Z0t ht,Z0t hu,sizeOf,typeInfo,zeroValue,hi,hz,hx,hn,b,a,Question.forced,d,c,newRow,grownCap]
 all_goals (congr 2;apply Z1A;simp)
end
def A3O(P:Program)(e:TypeId)(sz bytes:Nat):Prop:=∃i z,P.info? e=some i/\i.zero=some z/\i.size=sz/\i.bytes=bytes/\z.cells.size=sz/\0<bytes
def A7r(hint:Bool)(sz:Nat)(s x:AV)(M:Mem):Option (AV×Mem):=
 match B0q s,B0q x with
 |some (r1,own),some (r2,_)=>
  match own with
  |.fam f=>match M[f]? with
   |some (.fam m sz')=>if m=r1.length/\sz'=sz then some (.list sz (r1++r2) (.fam f),M.set f (.fam (r1.length+r2.length) sz))else none
   |_=>none
  |.full=>if hint then some (.list sz (r1++r2) (.fam M.length),M++[.fam (r1.length+r2.length) sz])else some (.list sz (r1++r2) .no,M)
  |.no=>none
 |_,_=>none
def A8M(s:AV):Nat:=match B0q s with|some (r,_)=>r.length|none=>0
def A6p(P:Program)(base:Option Addr)(n c:Nat)(w:World):(Builtin.lenOf (.slice base n c)).run P w=.ok n w:=rfl
def A0m.grow(G:A0m)(f n:Nat)(h:Option Addr×Nat)(nb o:Nat)(vs:List Value):A0m:={G with st:=λb i=>if b=nb/\o<=i/\i<o+vs.length then vs[i-o]? else G.st b i,hdr:=λj=>if j=f thenλk=>if k=n then h else G.hdr f k else G.hdr j,top:=λj=>if j=f then n else G.top j}
def A0m.le_grow{G:A0m}{f n:Nat}{h:Option Addr×Nat}{nb o:Nat}{vs:List Value}(hn:G.top f<n\/(G.top f=n/\G.hdr f n=h))(a:∀i v,o<=i->i<o+vs.length->G.st nb i=some v->vs[i-o]?=some v):G.le (G.grow f n h nb o vs):=by
 refine⟨Z0u _,λ_ _=>rfl,λb i v hv=>?_,λ_ _ h=>h,λj _=>?_,λj _ k hk=>?_⟩
 .simp only[A0m.grow];split
  .rename_i e;obtain⟨rfl,h1,h2⟩:=e;exact a i v h1 h2 hv
  .exact hv
 .simp only[A0m.grow];by_cases e:j=f
  .subst e;rw[Z0d rfl];omega
  .rw[Z0e e];exact Z0u _
 .simp only[A0m.grow];by_cases e:j=f
  .subst e;rw[Z0d rfl];by_cases e2:k=n
   .subst e2;rw[Z0d rfl];rcases hn with h1|⟨_,h1⟩
    .omega
    .exact h1.symm
   .rw[Z0e e2]
  .rw[Z0e e]
abbrev B7l(G:A0m)(sz:Nat)(rows:List (List AV))(base:Option Addr)(cap:Nat):Prop:=match base with|none=>rows=[]/\cap=0|some a=>(rows≠[]->a.spot=none)/\A0z G sz rows a.block a.off
def A5U{G}{sz}{rows}{own}{base}{n cap}(hn:n=rows.length)(h1:rows.length<=cap)(h2:cap<=maxLen)(h3:B7l G sz rows base cap)(h4:A6j G own rows.length base cap):Rep G (.list sz rows own) (.slice base n cap):=by
 subst hn
 simp only[Rep]
 exact⟨base,cap,rfl,h1,h2,h3,h4⟩
def B7l.mono{G G'}(h:G.le G'){sz}{rows}{base}{cap}(k:B7l G sz rows base cap):B7l G' sz rows base cap:=by
 cases base with
 |none=>exact k
 |some a=>exact⟨k.1,A0z.mono h sz rows _ _ k.2⟩
def Inv.adopt{C}{G}{M}{w}(hi:Inv C G M w){n sz}{base}(hn:n<=maxLen):∃G',Inv C G' (M++[.fam n sz]) w/\G.le G'/\M.length<G'.n/\G'.top M.length=n/\G'.hdr M.length n=(base,n):=by
 have hm:=hi.more w.heap.size (λ_=>(base,n)) n
 have hk:(M++[A0p.gone])[M.length]?=some .gone:=by simp
 have e1:(G.more w.heap.size (λ_=>(base,n)) n).hdr M.length n=(base,n):=by simp[A0m.more,hi.n]
 have e2:(G.more w.heap.size (λ_=>(base,n)) n).top M.length=n:=by simp[A0m.more,hi.n]
 have hs:=hm.step (w':=w) (o':=.fam n sz) M.length w.heap.size hk (.inr (Z0u _)) (.refl _) rfl (λ_=>rfl) (λ_ _=>⟨rfl,rfl⟩) (λ_ _ _ h=>.inl h) (λ_=>rfl) (λ_ _ _=>rfl) (λi v h=>hi.st _ _ _ h) (λo h=>by have:=hi.keep_lt (b:=w.heap.size) (o:=o) h;omega) ⟨e2,by rw[e1];exact Z0u _,by rw[e1];exact hn,λh=>by rw[e1]at h;simp at h⟩ (λb h=>by simp[A3i,e1]at h)
 exact⟨_,by simpa using hs,G.le_more _ _ _,by simp[A0m.more,hi.n],e2,e1⟩
def A0z.grown{G G'}(c:G.le G'){sz nb o}{rows}{vs}(hr:A0q G rows.flatten vs)(h1:∀v∈vs,v.oneCell'=true)(b:∀r∈rows,r.length=sz) (a:∀(i:Nat) (v:Value),vs[i]?=some v->G'.st nb (o+i)=some v):A0z G' sz rows nb o:=A0z.mk b (A0M.mk (A0q.mono c _ _ hr) h1 a)
def C2s{C}{G}{M}{w}(hi:Inv C G M w){s x}{sv xv}(hs:Rep G s sv)(hx:Rep G x xv){sz bytes}(br:B0v sz s)(c6:B0v sz x)
 {hint}{r}{M'}(h:A7r hint sz s x M=some (r,M')){t u e:TypeId}(ty:TypeId)(ht:A0S C.P t=some e)(hu:A4v C.P u)(he:A3O C.P e sz bytes)
 (hb:(A8M s+A8M x)*bytes<=140737488355328):
 ∃v w' G',(Builtin.append_ #[t,u] ty #[sv,xv]).run C.P w=.ok v w'/\G.le G'/\Inv C G' M' w'/\Rep G' r v/\Ext w w':=by
 have ht:=A2i ht
 obtain⟨i,z,ak,hz,aq,bz,c5,bd⟩:=he
 have b3:A1e C.P e=some sz:=by simp[A1e,ak,aq]
 unfold A7r at h
 split at h
 case h_2=>simp at h
 rename_i r1 own r2 own2 e1 e2
 obtain⟨base,cap,rfl,be,af,ah,ae⟩:=B8t hi hs e1 br
 obtain⟨a3,a7,rfl,c8,c9,bq,c7⟩:=B8t hi hx e2 c6
 obtain⟨a0,c0,ac,bb,bo,bi⟩:=B3A hi (cap:=cap) ah
 obtain⟨c,bt,a1,aj,bg,b9⟩:=B3A hi (cap:=a7) bq
 have c3:(r1.length+r2.length)*bytes<=140737488355328:=by simpa[A8M,e1,e2]using hb
 have bp:r1.length+r2.length<=maxLen:=by have:r1.length+r2.length<=(r1.length+r2.length)*bytes:=Z2c _ bd;simp only[maxLen];omega
 have ap:A0q G (r1++r2).flatten (a0++c):=by rw[List.flatten_append];exact c0.append bt
 have a4:∀v∈a0++c,v.oneCell'=true:=λv hv=>by
  rcases Z1b.1 hv with h|h
  .exact bb v h
  .exact aj v h
 have ab:∀q∈r1++r2,q.length=sz:=λv hv=>by
  rcases Z1b.1 hv with h|h
  .exact bo v h
  .exact bg v h
 have ay:(a0++c).length=(r1.length+r2.length)*sz:=by rw[Z0z,ac,a1,Z0N]
 by_cases hm:r2.length=0
 ·-- nothing is appended
  have bl:r2=[]:=Z0w hm;subst bl;have bs:(Builtin.firstCells sz 0 (.slice a3 ([]:List (List AV)).length a7)).run C.P w=.ok #[] w:=by have:=b9 w rfl;have hv:c=[]:=Z0w (by simpa using a1);subst hv;exact this
  have k:=B0g (P:=C.P) (ty:=ty) (s:=.bool true) (base:=base) (n:=r1.length) (cap:=cap) (x:=.slice a3 ([]:List (List AV)).length a7) ht b3 hu (λw=>A6p _ _ _ _ _) bs be;simp only[Z1f,Z1t,Z0V]at h;cases own with
  |no=>simp at h
  |full=>
   simp only[A6j]at ae;subst ae;simp only at h;split at h
   .simp only[Z0a,Z0b]at h;obtain⟨rfl,rfl⟩:=h;obtain⟨G',p,l,y,q1,q2⟩:=hi.adopt (n:=r1.length) (sz:=sz) (base:=base) af;exact⟨_,w,G',k,l,p,A5U rfl (Z0u _) af (B7l.mono l ah) ⟨y,by omega,q2⟩,.refl _⟩
   .simp only[Z0a,Z0b]at h;obtain⟨rfl,rfl⟩:=h;exact⟨_,w,G,k,.refl _,hi,A5U rfl be af ah trivial,.refl _⟩
  |fam f=>
   simp only at h;split at h
   .rename_i m sz' hf;split at h
    .rename_i hcond;obtain⟨rfl,rfl⟩:=hcond;simp only[Z0a,Z0b]at h;obtain⟨rfl,rfl⟩:=h;(have hM:M.set f (.fam r1.length sz')=M:=by have y:=A0r hf;rw[Z0m y]at hf;have:=Z1Z hf;rw[<-this];exact List.set_getElem_self y);rw[hM];exact⟨_,w,G,k,.refl _,hi,A5U rfl be af ah ae,.refl _⟩
    .simp at h
   .simp at h
 .by_cases hroom:r1.length+r2.length<=cap
  ·-- in place
   cases own with
   |no=>simp at h
   |full=>simp only[A6j]at ae;omega
   |fam f=>
    simp only at h;split at h;(case h_2=>simp at h);rename_i m sz' hf;split at h;(case isFalse=>simp at h);rename_i hcond;obtain⟨rfl,rfl⟩:=hcond;simp only[Z0a,Z0b]at h;obtain⟨rfl,rfl⟩:=h;obtain⟨ag,c4,bf⟩:=ae;obtain⟨a8,ad,bw,bj⟩:=hi.obj f _ hf;rw[bf]at ad bw bj;obtain⟨g,a5,ct,au,hg,b5,al,an⟩:=bj (by show r1.length<cap;omega);simp only at au b5;subst au;(have b7:r1.length*sz'+c.length<=a5.size:=by rw[a1,<-Z0N];exact Z0T (Z1h _ hroom) b5);have k:=C2k (P:=C.P) (ty:=ty) (g:=g) (n:=r1.length) (cap:=cap) (x:=.slice a3 r2.length a7) (m:=r2.length) ht b3 hu (λw=>A6p _ _ _ _ _) (b9 w rfl) hroom hg b7 aj;generalize bc:w.setRow g (a5.toList.take (r1.length*sz')++c++a5.toList.drop (r1.length*sz'+c.length)).toArray=w' at k;(have am:w'.heap[g]?=some (.cells (a5.toList.take (r1.length*sz')++c++a5.toList.drop (r1.length*sz'+c.length)).toArray ct (0,0)):=by rw[<-bc];exact Z4i w g a5 _ ct _ hg);(have bu:(a5.toList.take (r1.length*sz')).length=r1.length*sz':=by rw[Z0I];simp;omega);(have ao:∀i:Nat,w'.cell? ⟨g,i,none⟩=(a5.toList.take (r1.length*sz')++c++a5.toList.drop (r1.length*sz'+c.length))[i]?:=by intro i;rw[Z2G _ _ _ _ _ _ am];simp);(have bm:∀i:Nat,i<r1.length*sz'->w'.cell? ⟨g,i,none⟩=w.cell? ⟨g,i,none⟩:=by intro i p;rw[ao,Z2G _ _ _ _ _ _ hg,Z0O,Z0j (by omega),Z0R,Z0d p];simp);(have ba:∀i v,r1.length*sz'<=i->c[i-r1.length*sz']?=some v->w'.cell? ⟨g,i,none⟩=some v:=by intro i v p hv;have y:=A0r hv;rw[ao,Z0O,Z1m (by omega),bu,Z0j y];exact hv);have b6:∀i v,G.st g i=some v->i<r1.length*sz':=by
     intro i v hv;rcases Z3y i (r1.length*sz')with h|h
     .exact h
     .rw[al i h]at hv;simp at hv
    have l:G.le (G.grow f (r1.length+r2.length) (some ⟨g,0,none⟩,cap) g (r1.length*sz') c):=A0m.le_grow (.inl (by omega)) (λi v h1 h2 hv=>by have:=b6 i v hv;omega);(have d:(G.grow f (r1.length+r2.length) (some ⟨g,0,none⟩,cap) g (r1.length*sz') c).hdr f (r1.length+r2.length)=(some ⟨g,0,none⟩,cap):=by simp[A0m.grow]);(have bv:A3i G f (.fam r1.length sz') g:=by simp only[A3i,bf];exact⟨by omega,_,rfl,rfl⟩);have p:=hi.step (w':=w') (o':=.fam (r1.length+r2.length) sz') f g hf (.inl bv) l rfl (λ_=>rfl) (λj hj=>by simp[A0m.grow,hj])
     (λb i v hv=>by
      simp only[A0m.grow]at hv;split at hv
      .rename_i hc;obtain⟨rfl,c1,c2⟩:=hc;exact .inr ⟨rfl,ba i v c1 hv⟩
      .exact .inl hv)
     (λ_=>rfl) (λb _ hne=>by rw[<-bc];exact Z3z _ _ _ _ hne) (λi v hv=>by rw[bm i (b6 i v hv)];exact hi.st _ _ _ hv) (λo ho=>by rw[an]at ho;simp at ho)
     ⟨by
      simp[A0m.grow],by rw[d];exact hroom,by rw[d];exact af,λy=>⟨g,_,ct,by rw[d],am,by
      rw[d];simp only[Z2m,Z0z,Z0I,Z1e,Z1E];omega,λi p=>by simp only[A0m.grow];rw[Z0e (by rw[a1,<-Z0N];omega)];exact al i (Z0T (Z1h _ (Nat.le_add_right _ _)) p),an⟩⟩
     (λb hb=>.inl (by simp only[A3i,d,Z0a]at hb;obtain⟨_,a,rfl,rfl⟩:=hb;rfl))
    refine⟨_,w',_,k,l,p,?_,by rw[<-bc];exact Ext.setRow _ _ _⟩;refine A5U (by simp) (by simpa using hroom) af ⟨λ_=>rfl,?_⟩ ⟨by exact ag,by simp[A0m.grow],by simpa using d⟩;refine A0z.grown l ap a4 ab (λi v hv=>?_);simp only[Z0K,A0m.grow];by_cases y:i<a0.length
    .rw[Z0j y]at hv;rw[Z0e (by omega)];obtain⟨_,ai⟩:=ah;obtain⟨us,q1,q2,q3,q4⟩:=(A0z.flat ai).1.vals;(have bx:us=a0:=by have b8:=bi w rfl;have bn:=Z2r (P:=C.P) w sz' r1.length ⟨g,0,none⟩ r1.length cap us (by rw[q2,(A0z.flat ai).2]) (λj v hv=>by rw[Z1x];exact hi.st _ _ _ (q4 j v hv));rw[bn]at b8;simp at b8;exact b8);subst bx;simpa using q4 i v hv
    .rw[Z1m (by omega)]at hv;have:=A0r hv;rw[Z0d ⟨trivial,by omega,by omega⟩,<-ac];exact hv
  ·-- a new block
   have k:=B0e (P:=C.P) (ty:=ty) (base:=base) (n:=r1.length) (cap:=cap) (x:=.slice a3 r2.length a7) (m:=r2.length) (w:=w) (i:=i) (z:=z) (e:=e) (t:=t) (u:=u) (news:=c) (olds:=a0) ht ak hz hu (λw=>A6p _ _ _ _ _) (by rw[aq];exact b9 w.drew rfl) (by rw[aq];exact bi w.drew rfl) (by omega) (by rw[bz];exact c3) bp;have b1:=Z4j w (r1.length+r2.length) cap e;have az:=Z3h w (r1.length+r2.length) cap e bp;generalize grownCap w (r1.length+r2.length) cap e=nc at k b1 az;generalize b2:a0.toArray++c.toArray++Builtin.zeroCells z.cells (nc-(r1.length+r2.length))=aa at k;(have aw:aa.size=nc*sz:=by rw[<-b2];simp only[Z3W,Z2m,Z4p,c5,ac,a1,<-Z0N];congr 1;omega);(have a6:∀(i:Nat) (v:Value),(a0++c)[i]?=some v->aa[i]?=some v:=by intro i v hv;have y:=A0r hv;rw[<-b2,Z3R (by simp at y|-;omega),<-hv];simp);have ax:Inv C G M w.drew:=hi.world rfl;have av:Ext w (w.drew.alloc (.cells aa e)):=(Ext.drew w).trans (Ext.alloc _ _);have a2:=Z2a w.drew (.cells aa e);have a9:∀(G1:A0m) (M1:Mem) (f:Nat) (o:A0p),Inv C G1 M1 w.drew->G.le G1->M1[f]?=some o->f<G1.n->(G1.top f<r1.length+r2.length\/(∀h,G1.top f=r1.length+r2.length/\G1.hdr f (r1.length+r2.length)=h->True)/\G1.top f<r1.length+r2.length)->
    ∃G',G.le G'/\Inv C G' (M1.set f (.fam (r1.length+r2.length) sz)) (w.drew.alloc (.cells aa e))/\Rep G' (.list sz (r1++r2) (.fam f)) (.slice (some ⟨w.heap.size,0,none⟩) (r1.length+r2.length) nc):=by
    intro G1 M1 f o b0 ad hf ag a8
    have a8:G1.top f<r1.length+r2.length:=by rcases a8 with h|h;exact h;exact h.2
    have l:G1.le (G1.grow f (r1.length+r2.length) (some ⟨w.heap.size,0,none⟩,nc) w.heap.size 0 (a0++c)):=A0m.le_grow (.inl a8) (λi v _ _ hv=>by have:=b0.st_lt hv;simp at this)
    have d:(G1.grow f (r1.length+r2.length) (some ⟨w.heap.size,0,none⟩,nc) w.heap.size 0 (a0++c)).hdr f (r1.length+r2.length)=(some ⟨w.heap.size,0,none⟩,nc):=by simp[A0m.grow]
    have b4:∀i,G1.st w.heap.size i=none:=by
     intro i;cases h:G1.st w.heap.size i with
     |none=>rfl
     |some v=>have:=b0.st_lt h;simp at this
    have bh:∀o,G1.keep w.heap.size≠some o:=by intro o h;have:=b0.keep_lt h;simp at this
    have p:=b0.step (w':=w.drew.alloc (.cells aa e)) (o':=.fam (r1.length+r2.length) sz) f w.heap.size hf (.inr (by simp)) l rfl (λ_=>rfl) (λj hj=>by simp[A0m.grow,hj])
     (λb i v hv=>by
      simp only[A0m.grow]at hv;split at hv
      .rename_i hc;obtain⟨rfl,c1,c2⟩:=hc;refine .inr ⟨rfl,?_⟩;rw[Z2G _ _ _ _ _ _ (by simpa using a2)];exact a6 i v (by simpa using hv)
      .exact .inl hv)
     (λ_=>rfl) (λb y _=>A3I w.drew _ b (by simpa using y)) (λi v hv=>by rw[b4]at hv;simp at hv) bh
     ⟨by
      simp[A0m.grow],by rw[d];exact b1,by rw[d];exact az,λy=>⟨w.heap.size,aa,e,by rw[d],by simpa using a2,by rw[d,aw];exact Z0u _,λi p=>by
      simp only[A0m.grow];rw[Z0e (by rw[ay];omega)];exact b4 i,by
      cases h:G1.keep w.heap.size with
      |none=>exact h
      |some o=>exact absurd h (bh o)⟩⟩
     (λb hb=>.inl (by simp only[A3i,d,Z0a]at hb;obtain⟨_,a,rfl,rfl⟩:=hb;rfl))
    refine⟨_,ad.trans l,p,?_⟩
    refine A5U (by simp) (by simpa using b1) az ⟨λ_=>rfl,?_⟩ ⟨ag,by simp[A0m.grow],by simpa using d⟩
    refine A0z.grown (ad.trans l) ap a4 ab (λi v hv=>?_)
    have:=A0r hv
    simp only[Z0K,A0m.grow]
    rw[Z0d ⟨trivial,by omega,by omega⟩]
    simpa using hv
   cases own with
   |no=>simp at h
   |full=>
    simp only at h;split at h
    .simp only[Z0a,Z0b]at h;obtain⟨rfl,rfl⟩:=h;have bk:=ax.more 0 (λ_=>(none,0)) 0;obtain⟨G',l,p,ar⟩:=a9 _ (M++[.gone]) M.length .gone bk (G.le_more _ _ _) (by simp) (by simp[A0m.more,hi.n]) (.inl (by simp[A0m.more,hi.n];omega));exact⟨_,_,G',k,l,by simpa using p,ar,av⟩
    .simp only[Z0a,Z0b]at h;obtain⟨rfl,rfl⟩:=h;have l:=A0m.le_fix ax (a0++c);refine⟨_,_,_,k,l,ax.fix aa e (a0++c) a6,?_,av⟩;refine A5U (by simp) (by simpa using b1) az ⟨λ_=>rfl,?_⟩ trivial;refine A0z.grown l ap a4 ab (λi v hv=>?_);simp only[Z0K,A0m.fix];rw[Z0d (show w.heap.size=w.drew.heap.size from rfl)];exact hv
   |fam f=>simp only at h;split at h;(case h_2=>simp at h);rename_i m sz' hf;split at h;(case isFalse=>simp at h);rename_i hcond;obtain⟨rfl,rfl⟩:=hcond;simp only[Z0a,Z0b]at h;obtain⟨rfl,rfl⟩:=h;obtain⟨ag,c4,bf⟩:=ae;obtain⟨a8,_⟩:=hi.obj f _ hf;obtain⟨G',l,p,ar⟩:=a9 G M f _ ax (.refl _) hf ag (.inl (by omega));exact⟨_,_,G',k,l,p,ar,av⟩
end Go.Abs
