/- The texts Zal, CsX, AbsA, AbsB, AbsC, AbsC2, AbsD. -/
import Derived.WalkKit
set_option linter.all false
section
def Z0a:=@List.getElem?_eq_some_iff
def Z0b:=@Option.some.injEq
def Z0c:=@List.getElem?_set_ne
def Z0d:=@if_neg
def Z0e:=@if_pos
def Z0f:=@Bool.and_eq_true
def Z0g:=@List.take_of_length_le
def Z0h:=@Prod.mk.injEq
def Z0i:=@List.getElem?_append_left
def Z0j:=@List.drop_eq_getElem_cons
def Z0k:=@decide_eq_true_eq
def Z0l:=@List.getElem?_eq_getElem
def Z0m:=@Option.map_eq_some_iff
def Z0n:=@Nat.le_refl
def Z0o:=@List.getElem_mem
def Z0p:=@List.all_eq_true
def Z0q:=@Go.run_underlying
def Z0r:=@decide_eq_false
def Z0s:=@List.mem_cons
def Z0t:=@List.length_append
def Z0u:=@Go.Result.andThen_ok
def Z0v:=@List.drop_eq_nil_of_le
def Z0w:=@decide_eq_true
def Z0x:=@List.length_cons
def Z0y:=@List.eq_nil_of_length_eq_zero
def Z0z:=@List.map_cons
def Z0A:=@List.take_succ_eq_append_getElem
def Z0B:=@List.take_succ_cons
def Z0C:=@List.mem_map
def Z0D:=@List.length_take
def Z0E:=@Go.Sem.run_bind
def Z0F:=@List.append_assoc
def Z0G:=@List.length_map
def Z0H:=@Bool.false_eq_true
def Z0I:=@List.mem_singleton
def Z0J:=@ByteArray.size_append
def Z0K:=@Go.Sem.run_pure
def Z0L:=@Bool.true_and
def Z0M:=@Nat.add_mul
def Z0N:=@Nat.zero_add
def Z0O:=@Bool.false_and
def Z0P:=@List.getElem?_take
def Z0Q:=@Array.getElem?_eq_getElem
def Z0R:=@Nat.le_trans
def Z0S:=@List.mem_append
def Z0T:=@if_true
def Z0U:=@List.map_append
def Z0V:=@List.cons_append
def Z0W:=@List.getElem?_append
def Z0X:=@List.flatten_cons
def Z0Y:=@List.flatMap_cons
def Z0Z:=@Nat.add_zero
def Z1a:=@List.cons.injEq
def Z1b:=@List.take_append_drop
def Z1c:=@List.length_drop
def Z1d:=@List.append_nil
def Z1e:=@List.getElem?_drop
def Z1f:=@Nat.mul_le_mul_right
def Z1g:=@List.getElem?_map
def Z1h:=@List.drop_zero
def Z1i:=@if_false
def Z1j:=@Nat.lt_of_lt_of_le
def Z1k:=@List.mem_of_mem_take
def Z1l:=@List.flatMap_append
def Z1m:=@List.mem_of_mem_drop
def Z1n:=@List.all_cons
def Z1o:=@List.mem_range
def Z1p:=@List.mem_filter
def Z1q:=@List.nodup_cons
def Z1r:=@List.take_add_one
def Z1s:=@List.getElem?_eq_none
def Z1t:=@Go.Addr.add_lit
def Z1u:=@List.map_take
def Z1v:=@List.mem_cons_of_mem
def Z1w:=@Option.getD_some
def Z1x:=@List.not_mem_nil
def Z1y:=@List.getElem?_append_right
def Z1z:=@Array.length_toList
def Z1A:=@Nat.min_eq_left
def Z1B:=@List.length_nil
def Z1C:=@Option.map_some
def Z1D:=@and_true
def Z1E:=@Array.ext'
def Z1F:=@List.nil_append
def Z1G:=@List.ext_getElem?
def Z1H:=@Option.some.inj
def Z1I:=@Bool.or_eq_true
def Z1J:=@Bool.false_or
def Z1K:=@List.map_map
def Z1L:=@List.nodup_append
def Z1M:=@of_decide_eq_true
def Z1N:=@decide_eq_false_iff_not
def Z1O:=@List.getD_eq_getElem?_getD
def Z1P:=@List.mem_append_left
def Z1Q:=@List.drop_of_length_le
def Z1R:=@List.getElem_map
def Z1S:=@List.mem_flatMap
def Z1T:=@List.take_append_of_le_length
def Z1U:=@List.drop_succ_cons
def Z1V:=@List.length_filter_le
def Z1W:=@Option.isSome_some
def Z1X:=@Nat.add_sub_cancel_left
def Z1Y:=@Bool.or_eq_false_iff
def Z1Z:=@List.filter_cons
def Z2a:=@Array.getElem?_eq_some_iff
def Z2b:=@List.map_nil
def Z2c:=@List.drop_drop
def Z2d:=@List.getElem_cons_succ
def Z2e:=@eq_true
def Z2f:=@List.length_pos_iff
def Z2g:=@Nat.zero_mul
def Z2h:=@Go.heap_alloc_new
def Z2i:=@Bool.not_false
def Z2j:=@Go.World.block_lt_of_cell?
def Z2k:=@Nat.le_mul_of_pos_right
def Z2l:=@Option.bind_eq_some_iff
def Z2m:=@List.getElem?_set
def Z2n:=@List.find?_cons
def Z2o:=@List.replicate_succ
def Z2p:=@List.map_congr_left
def Z2q:=@beq_eq_false_iff_ne
def Z2r:=@List.getElem_of_mem
def Z2s:=@Nat.add_assoc
def Z2t:=@Bool.not_true
def Z2u:=@true_and
def Z2v:=@List.take_take
def Z2w:=@List.take_zero
def Z2x:=@Nat.eq_of_beq_eq_true
def Z2y:=@Ne.symm
def Z2z:=@List.mem_append_right
def Z2A:=@List.mem_of_find?_eq_some
def Z2B:=@Go.Calls.mono
def Z2C:=@List.Pairwise.imp_of_mem
def Z2D:=@List.size_toArray
def Z2E:=@Bool.not_eq_true'
def Z2F:=@Go.run_firstCells_some
def Z2G:=@or_false
def Z2H:=@List.getElem?_set_self
def Z2I:=@Nat.le_of_eq
def Z2J:=@List.set_set
def Z2K:=@List.findIdx?_eq_some_iff_findIdx_eq
def Z2L:=@Bool.eq_iff_iff
def Z2M:=@List.range_succ
def Z2N:=@not_or
def Z2O:=@List.mem_of_getElem?
def Z2P:=@Classical.byContradiction
def Z2Q:=@Go.cell_of_row
def Z2R:=@List.set_eq_take_append_cons_drop
def Z2S:=@Go.wpIn_mono
def Z2T:=@List.drop_take
def Z2U:=@List.any_eq_true
def Z2V:=@beq_self_eq_true
def Z2W:=@Option.isSome_iff_exists
def Z2X:=@Bool.true_or
def Z2Y:=@Nat.add_sub_cancel
def Z2Z:=@List.Nodup.length_le_of_subset
def Z3a:=@Nat.zero_le
def Z3b:=@List.filter_eq_nil_iff
def Z3c:=@List.foldl_append
def Z3d:=@Option.none_or
def Z3e:=@Bool.and_false
def Z3f:=@Bool.and_eq_false_iff
def Z3g:=@List.eq_nil_or_concat
def Z3h:=@beq_iff_eq
def Z3i:=@Option.bind_some
def Z3j:=@Bool.and_self
def Z3k:=@List.any_cons
def Z3l:=@List.foldl_cons
def Z3m:=@Array.mapM_eq_mapM_toList
def Z3n:=@List.mem_or_eq_of_mem_set
def Z3o:=@List.pairwise_iff_getElem
def Z3p:=@List.getElem_append_right
def Z3q:=@List.mem_cons_self
def Z3r:=@Go.grownCap_le_maxLen
def Z3s:=@List.mem_replicate
def Z3t:=@List.filter_append
def Z3u:=@List.mapM_cons
def Z3v:=@Go.run_storeCells_at
def Z3w:=@List.any_eq_false
def Z3x:=@List.getElem_cons_zero
def Z3y:=@Go.Addr.mk.injEq
def Z3z:=@Bool.and_true
def Z3A:=@Option.getD_none
def Z3B:=@Array.toList_map
def Z3C:=@List.flatMap_map
def Z3D:=@List.drop_append
def Z3E:=@Go.wpIn_seq
def Z3F:=@List.length_singleton
def Z3G:=@Nat.lt_or_ge
def Z3H:=@Go.setRow_other
def Z3I:=@List.length_set
def Z3J:=@Go.run_newObj
def Z3K:=@Array.eq_empty_of_size_eq_zero
def Z3L:=@List.all_nil
def Z3M:=@List.Pairwise.filter
def Z3N:=@Nat.not_lt_zero
def Z3O:=@Go.Value.pointer.injEq
def Z3P:=@List.length_take_le
def Z3Q:=@Array.getElem?_setIfInBounds
def Z3R:=@and_self
def Z3S:=@Array.getD_eq_getD_getElem?
def Z3T:=@Array.getElem?_append_left
def Z3U:=@Bool.or_false
def Z3V:=@Go.DataW.trod_lt
def Z3W:=@not_true_eq_false
def Z3X:=@Array.size_append
def Z3Y:=@Bool.not_eq_false
def Z3Z:=@List.pairwise_map
def Z4a:=@List.getLast?_eq_getElem?
def Z4b:=@List.getElem?_eq_none_iff
def Z4c:=@List.mem_flatten
def Z4d:=@Array.all_toList
def Z4e:=@Nat.add_comm
def Z4f:=@List.getElem?_cons_zero
def Z4g:=@false_and
def Z4h:=@List.find?_some
def Z4i:=@List.filter_nil
def Z4j:=@List.all_append
def Z4k:=@Go.World.var?_cell
def Z4l:=@Go.setRow_heap
def Z4m:=@Go.grownCap_ge
def Z4n:=@List.map_id
def Z4o:=@List.pairwise_lt_range
def Z4p:=@List.take_left
def Z4q:=@Go.wp_mono
def Z4r:=@List.mem_iff_getElem?
def Z4s:=@Go.size_zeroCells
def Z4t:=@Nat.mul_le_mul
def Z4u:=@List.concat_eq_append
def Z4v:=@List.singleton_append
def Z4w:=@List.pairwise_flatMap
def Z4x:=@Array.getElem?_toList
def Z4y:=@Go.wpIn_block
def Z4z:=@List.drop_nil
def Z4A:=@List.map_drop
def Z4B:=@Nat.succ_mul
def Z4C:=@Nat.sub_self
def Z4D:=@decide_false
def Z4E:=@Bool.or_true
end
namespace Go.Abs
section
variable (par:Nat->Int) (N:Nat)
def chL(p:Int):List Nat:=(List.range N).filter λk=>decide (par k=p)
def A4b:Nat->Nat->List Nat
 |0,_=>[]
 |f+1,n=>n::(chL par N (n:Int)).flatMap (A4b f)
inductive Up (n:Nat):Nat->Prop
 |refl:Up n n
 |step {i j:Nat}:par j=(i:Int)->Up n i->Up n j
end
section
variable {par:Nat->Int} {N:Nat}
def A4q{p}{k}:k∈chL par N p<->k<N/\par k=p:=by simp[chL]
def C1v{p}:(chL par N p).Nodup:=Z3M _ List.nodup_range
def Up.le(hp:∀j,j<N->par j<j){n j}(h:Up par n j):j<N->n<=j:=by
 induction h with
 |refl=>intro _;exact Z0n _
 |step e _ ih=>intro hj;have:=hp _ hj;have:=ih (by omega);omega
def Up.uniq(hp:∀j,j<N->par j<j){a j}(h:Up par a j):∀{b:Nat},j<N->Up par b j->par a=par b->a=b:=by
 induction h with
 |refl=>
  intro b hj hb e;cases hb with
  |refl=>rfl
  |step e2 h2=>rename_i i;have hi:=hp a hj;have:=h2.le hp (by omega);have:=hp b (by omega);omega
 |step e1 h1 ih=>
  rename_i i j;intro b hj hb e;have hi:=hp j hj;cases hb with
  |refl=>have:=h1.le hp (by omega);have:=hp a (by omega);omega
  |step e2 h2=>rename_i i2;(have:i=i2:=by omega);subst this;exact ih (by omega) h2 e
def Up.down(hp:∀j,j<N->par j<j){n j}(h:Up par n j):j<N->j=n\/∃i,i<N/\par i=(n:Int)/\Up par i j:=by
 induction h with
 |refl=>intro _;exact .inl rfl
 |step e h ih=>
  rename_i i j;intro hj;have:=hp j hj;rcases ih (by omega)with h1|⟨k,h1,h2,h3⟩
  .subst h1;exact .inr ⟨j,hj,e,.refl⟩
  .exact .inr ⟨k,h1,h2,.step e h3⟩
def Up.trans{n i j}(h1:Up par n i)(h2:Up par i j):Up par n j:=by
 induction h2 with
 |refl=>exact h1
 |step e _ ih=>exact .step e ih
def B4g(hp:∀j,j<N->par j<j):∀f n,n<N->N<=f+n->(A4b par N f n).Nodup/\∀j,j∈A4b par N f n<->j<N/\Up par n j
 |0,n,h,hf=>by omega
 |f+1,n,h,hf=>by
  have ih:∀i,i∈chL par N (n:Int)->(A4b par N f i).Nodup/\∀j,j∈A4b par N f i<->j<N/\Up par i j:=λi hi=>by obtain⟨h1,h2⟩:=A4q.1 hi;have:=hp i h1;exact B4g hp f i h1 (by omega)
  have hm:∀j,j∈(chL par N (n:Int)).flatMap (A4b par N f)<->j<N/\∃i,i<N/\par i=(n:Int)/\Up par i j:=λj=>by
   rw[Z1S];constructor
   .rintro⟨i,hi,hj⟩;obtain⟨h1,h2⟩:=A4q.1 hi;obtain⟨h3,h4⟩:=((ih i hi).2 j).1 hj;exact⟨h3,i,h1,h2,h4⟩
   .rintro⟨h3,i,h1,h2,h4⟩;exact⟨i,A4q.2 ⟨h1,h2⟩,((ih i (A4q.2 ⟨h1,h2⟩)).2 j).2 ⟨h3,h4⟩⟩
  rw[A4b];refine⟨?_,λj=>?_⟩
  .rw[Z1q];refine⟨λhn=>?_,?_⟩
   .obtain⟨h1,i,h2,h3,h4⟩:=(hm n).1 hn;have:=h4.le hp h1;have:=hp i h2;omega
   .unfold List.Nodup;rw[Z4w];refine⟨λi hi=>(ih i hi).1,?_⟩;refine Z2C ?_ (C1v (par:=par) (N:=N) (p:=(n:Int)));intro a b ha hb c x hx y hy e;subst e;obtain⟨a1,a2⟩:=((ih a ha).2 x).1 hx;obtain⟨b1,b2⟩:=((ih b hb).2 x).1 hy;exact c (a2.uniq hp a1 b2 (by rw[(A4q.1 ha).2,(A4q.1 hb).2]))
  .rw[Z0s,hm];constructor
   .rintro(rfl|⟨h1,i,h2,h3,h4⟩)
    .exact⟨h,.refl⟩
    .exact⟨h1,(Up.step h3 .refl).trans h4⟩
   .rintro⟨h1,h2⟩;rcases h2.down hp h1 with e|⟨i,h3,h4,h5⟩
    .exact .inl e
    .exact .inr ⟨h1,i,h3,h4,h5⟩
def D8s(hp:∀j,j<N->-1<=par j/\par j<j):∀j,j<N->∃i,i<N/\par i=-1/\Up par i j:=by
 intro j;induction j using Nat.strongRecOn with
 |ind j ih=>
  intro hj;have:=hp j hj;by_cases c:par j=-1
  .exact⟨j,hj,c,.refl⟩
  .obtain⟨i,h1,h2,h3⟩:=ih (par j).toNat (by omega) (by omega);exact⟨i,h1,h2,.step (by omega) h3⟩
def B0O(par:Nat->Int)(N:Nat):List Nat:=(chL par N (-1)).flatMap (A4b par N N)
def A9f(hp:∀j,j<N->-1<=par j/\par j<j):(B0O par N).Nodup/\∀j,j∈B0O par N<->j<N:=by
 have c:∀j,j<N->par j<j:=λj h=>(hp j h).2;have ih:∀i,i∈chL par N (-1)->(A4b par N N i).Nodup/\∀j,j∈A4b par N N i<->j<N/\Up par i j:=λi hi=>B4g c N i (A4q.1 hi).1 (by omega);refine⟨?_,λj=>?_⟩
 .unfold B0O List.Nodup;rw[Z4w];refine⟨λi hi=>(ih i hi).1,?_⟩;refine Z2C ?_ (C1v (par:=par) (N:=N) (p:=-1));intro a b ha hb d x hx y hy e;subst e;obtain⟨a1,a2⟩:=((ih a ha).2 x).1 hx;obtain⟨b1,b2⟩:=((ih b hb).2 x).1 hy;exact d (a2.uniq c a1 b2 (by rw[(A4q.1 ha).2,(A4q.1 hb).2]))
 .unfold B0O;rw[Z1S];constructor
  .rintro⟨i,hi,hj⟩;exact(((ih i hi).2 j).1 hj).1
  .intro hj;obtain⟨i,h1,h2,h3⟩:=D8s hp j hj;exact⟨i,A4q.2 ⟨h1,h2⟩,((ih i (A4q.2 ⟨h1,h2⟩)).2 j).2 ⟨hj,h3⟩⟩
end
section
variable {K V:Type} [DecidableEq K]
def C3Z:∀{l m:List K},l.Nodup->(∀x∈l,x∈m)->l.length<=m.length
 |[],m,_,_=>by simp
 |a::l,m,h,hs=>by
  rw[Z1q]at h;have ha:=hs a (by simp);have:=C3Z (l:=l) (m:=m.erase a) h.2 λx hx=>by have b:x≠a:=λe=>h.1 (by rw[<-e];exact hx);exact(List.mem_erase_of_ne b).2 (hs x (by simp[hx]))
  rw[List.length_erase_of_mem ha]at this;have:=List.length_pos_of_mem ha;simp;omega
def D1b{l m:List K}(h:l.Nodup)(hs:∀x∈l,x∈m)(hl:m.length<=l.length):∀x∈m,x∈l:=by
 intro x hx;refine Z2P λhn=>?_;have:=C3Z (l:=x::l) (m:=m) (by rw[Z1q];exact⟨hn,h⟩) (by
  intro y hy;simp only[Z0s]at hy;rcases hy with rfl|hy
  .exact hx
  .exact hs y hy)
 simp at this;omega
def B9x:∀{W:List (K×V)} {x:K} {v:V},(W.map (·.1)).Nodup->(x,v)∈W->W.filter (λy=>decide (y.1=x))=[(x,v)]
 |[],x,v,_,h=>by simp at h
 |y::W,x,v,hn,h=>by
  simp only[Z0z,Z1q]at hn;simp only[Z0s]at h;rcases h with rfl|h
  .rw[List.filter_cons_of_pos (by simp)];(have:W.filter (λy=>decide (y.1=x))=[]:=by rw[Z3b];intro z hz e;exact hn.1 (by simp only[Z0k]at e;rw[<-e];exact Z0C.2 ⟨z,hz,rfl⟩));rw[this]
  .have a:y.1≠x:=λe=>hn.1 (by rw[e];exact Z0C.2 ⟨(x,v),h,rfl⟩);rw[List.filter_cons_of_neg (by simpa using a)];exact B9x hn.2 h
def D2T{W:List (K×V)}{g:K->V}{b:List K}(hn:(W.map (·.1)).Nodup)(hg:∀y∈W,g y.1=y.2)(hi:∀x∈b,x∈W.map (·.1)):b.flatMap (λx=>W.filter λy=>decide (y.1=x))=b.map λx=>(x,g x):=by
 induction b with
 |nil=>rfl
 |cons x b ih=>
  rw[Z0Y,Z0z,ih λy hy=>hi y (by simp[hy])]
  obtain⟨y,hy,e⟩:=Z0C.1 (hi x (by simp))
  obtain⟨a,v⟩:=y
  simp only at e
  subst e
  rw[B9x hn hy,hg _ hy]
  rfl
end
def ex{α:Sort _}(a:α):∃b,b=a:=⟨a,rfl⟩
inductive Own where
 |no
 |full
 |fam (f:Nat)
inductive AV where
 |poison
 |val (v:Value)
 |ptr (b off:Nat)
 |cptr (cells:List AV)
 |list (sz:Nat) (rows:List (List AV)) (own:Own)
 /-- a window,from row lo on,of the slice that the array f had at its time g -/
 |vref (f g sz lo len:Nat)
 /-- a pointer to a cell of it -/
 |vptr (f g off:Nat)
 |mapr (b:Nat)
 |func (fn:Fn) (first captured:List AV)
 |iface (t:TypeId) (v:AV)
 |agg (cells:List AV)
 |tuple (vs:List AV)
structure A0o where
 n:Nat
 blk:Nat->Nat
 st:Nat->Nat->Option Value
 keep:Nat->Option Obj
 hdr:Nat->Nat->Option Addr×Nat
 top:Nat->Nat
structure A0o.le (G G':A0o):Prop where
 n:G.n<=G'.n
 blk:∀b,b<G.n->G'.blk b=G.blk b
 st:∀b i v,G.st b i=some v->G'.st b i=some v
 keep:∀b o,G.keep b=some o->G'.keep b=some o
 top:∀f,f<G.n->G.top f<=G'.top f
 hdr:∀f,f<G.n->∀k,k<=G.top f->G'.hdr f k=G.hdr f k
def A0o.le.refl(G:A0o):G.le G:=⟨Z0n _,λ_ _=>rfl,λ_ _ _ h=>h,λ_ _ h=>h,λ_ _=>Z0n _,λ_ _ _ _=>rfl⟩
def A0o.le.trans{A B C:A0o}(h:A.le B)(k:B.le C):A.le C:=
 ⟨Z0R h.n k.n,λb hb=>(k.blk b (Z1j hb h.n)).trans (h.blk b hb),λb i v hv=>k.st b i v (h.st b i v hv),
  λb o ho=>k.keep b o (h.keep b o ho),λf hf=>Z0R (h.top f hf) (k.top f (Z1j hf h.n)),
  λf hf j hj=>(k.hdr f (Z1j hf h.n) j (Z0R hj (h.top f hf))).trans (h.hdr f hf j hj)⟩
def A5I(G:A0o)(own:Own)(len:Nat)(base:Option Addr)(cap:Nat):Prop:=
 match own with
 |.no=>True
 |.full=>cap=len
 |.fam f=>f<G.n/\len<=G.top f/\G.hdr f len=(base,cap)
def A5I.mono{G G'}(h:G.le G'){own}{len}{base}{cap}(k:A5I G own len base cap):A5I G' own len base cap:=by
 cases own with
 |no=>trivial
 |full=>exact k
 |fam f=>obtain⟨h1,h2,h3⟩:=k;exact⟨Z1j h1 h.n,Z0R h2 (h.top f h1),(h.hdr f h1 _ h2).trans h3⟩
mutual
def Rep(G:A0o):AV->Value->Prop
 |.poison,_=>True
 |.val v,x=>x=v
 |.ptr b off,x=>b<G.n/\x=.pointer (some ⟨G.blk b,off,none⟩)
 |.cptr cs,x=>∃b i,x=.pointer (some ⟨b,i,none⟩)/\A0N G cs b i
 |.list sz rows own,x=>∃base cap,x=.slice base rows.length cap/\rows.length<=cap/\cap<=maxLen/\(match base with|none=>rows=[]/\cap=0|some a=>(rows≠[]->a.spot=none)/\A0C G sz rows a.block a.off)/\A5I G own rows.length base cap
 |.vref f g sz lo len,x=>f<G.n/\g<=G.top f/\∃a a' cap,G.hdr f g=(some a,cap)/\a.spot=none/\a'.spot=none/\x=.slice (some a') len (cap-lo)/\lo+len<=cap/\cap<=maxLen/\(lo<cap->a'=⟨a.block,a.off+lo*sz,none⟩)
 |.vptr f g off,x=>f<G.n/\g<=G.top f/\∃a cap,G.hdr f g=(some a,cap)/\x=.pointer (some ⟨a.block,a.off+off,none⟩)
 |.mapr b,x=>b<G.n/\x=.map (some (G.blk b))
 |.func fn f c,x=>∃fs cs:Array Value,x=.func fn fs cs/\A0t G f fs.toList/\A0t G c cs.toList
 |.iface t v,x=>∃y,x=.iface t y/\Rep G v y
 |.agg cs,x=>∃ys:Array Value,x=.agg ys/\A0t G cs ys.toList/\∀y∈ys.toList,y.oneCell'=true
 |.tuple cs,x=>∃ys:Array Value,x=.tuple ys/\A0t G cs ys.toList
def A0t(G:A0o):List AV->List Value->Prop
 |[],ys=>ys=[]
 |c::cs,ys=>∃y ys',ys=y::ys'/\Rep G c y/\A0t G cs ys'
def A0N(G:A0o):List AV->Nat->Nat->Prop
 |[],_,_=>True
 |c::cs,b,i=>(∃v,G.st b i=some v/\v.oneCell'=true/\Rep G c v)/\A0N G cs b (i+1)
def A0C(G:A0o)(sz:Nat):List (List AV)->Nat->Nat->Prop
 |[],_,_=>True
 |r::rs,b,i=>(r.length=sz/\A0N G r b i)/\A0C G sz rs b (i+sz)
end
mutual
def Rep.mono{G G'}(h:G.le G'):∀(a:AV) (x:Value),Rep G a x->Rep G' a x
 |.poison,_,_=>by simp[Rep]
 |.val v,x,k=>by simpa[Rep]using k
 |.ptr b off,x,k=>by simp only[Rep]at k|-;exact⟨Z1j k.1 h.n,by rw[h.blk b k.1];exact k.2⟩
 |.cptr cs,x,k=>by simp only[Rep]at k|-;obtain⟨b,i,hx,hm⟩:=k;exact⟨b,i,hx,A0N.mono h cs b i hm⟩
 |.list sz rows own,x,k=>by
  simp only[Rep]at k|-;obtain⟨base,cap,hx,hl,hm,hb,ho⟩:=k;refine⟨base,cap,hx,hl,hm,?_,ho.mono h⟩;cases base with
  |none=>exact hb
  |some a=>exact⟨hb.1,A0C.mono h sz rows _ _ hb.2⟩
 |.vref f g sz lo len,x,k=>by simp only[Rep]at k|-;obtain⟨h1,h2,a,a',cap,h3,h4⟩:=k;exact⟨Z1j h1 h.n,Z0R h2 (h.top f h1),a,a',cap,(h.hdr f h1 g h2).trans h3,h4⟩
 |.vptr f g off,x,k=>by simp only[Rep]at k|-;obtain⟨h1,h2,a,cap,h3,h4⟩:=k;exact⟨Z1j h1 h.n,Z0R h2 (h.top f h1),a,cap,(h.hdr f h1 g h2).trans h3,h4⟩
 |.mapr b,x,k=>by simp only[Rep]at k|-;exact⟨Z1j k.1 h.n,by rw[h.blk b k.1];exact k.2⟩
 |.func fn f c,x,k=>by simp only[Rep]at k|-;obtain⟨fs,cs,hx,h1,h2⟩:=k;exact⟨fs,cs,hx,A0t.mono h f _ h1,A0t.mono h c _ h2⟩
 |.iface t v,x,k=>by simp only[Rep]at k|-;obtain⟨y,hx,h1⟩:=k;exact⟨y,hx,Rep.mono h v y h1⟩
 |.agg cs,x,k=>by simp only[Rep]at k|-;obtain⟨ys,hx,h1,h2⟩:=k;exact⟨ys,hx,A0t.mono h cs _ h1,h2⟩
 |.tuple cs,x,k=>by simp only[Rep]at k|-;obtain⟨ys,hx,h1⟩:=k;exact⟨ys,hx,A0t.mono h cs _ h1⟩
def A0t.mono{G G'}(h:G.le G'):∀(cs:List AV) (ys:List Value),A0t G cs ys->A0t G' cs ys
 |[],ys,k=>by simpa[A0t]using k
 |c::cs,ys,k=>by simp only[A0t]at k|-;obtain⟨y,a,hy,h1,h2⟩:=k;exact⟨y,a,hy,Rep.mono h c y h1,A0t.mono h cs a h2⟩
def A0N.mono{G G'}(h:G.le G'):∀(cs:List AV) (b i:Nat),A0N G cs b i->A0N G' cs b i
 |[],_,_,_=>by simp[A0N]
 |c::cs,b,i,k=>by simp only[A0N]at k|-;obtain⟨⟨v,hv,ho,h1⟩,h2⟩:=k;exact⟨⟨v,h.st b i v hv,ho,Rep.mono h c v h1⟩,A0N.mono h cs b (i+1) h2⟩
def A0C.mono{G G'}(h:G.le G')(sz:Nat):∀(rs:List (List AV)) (b i:Nat),A0C G sz rs b i->A0C G' sz rs b i
 |[],_,_,_=>by simp[A0C]
 |r::rs,b,i,k=>by simp only[A0C]at k|-;exact⟨⟨k.1.1,A0N.mono h r b i k.1.2⟩,A0C.mono h sz rs b (i+sz) k.2⟩
end
def A0t.length{G}:∀{cs:List AV} {ys:List Value},A0t G cs ys->ys.length=cs.length
 |[],ys,k=>by simp only[A0t]at k;subst k;rfl
 |c::cs,ys,k=>by simp only[A0t]at k;obtain⟨y,a,rfl,_,h2⟩:=k;simp[A0t.length h2]
def A0t.get{G}:∀{cs:List AV} {ys:List Value},A0t G cs ys->∀{i:Nat} {c:AV},cs[i]?=some c->∃y,ys[i]?=some y/\Rep G c y
 |[],_,_,i,c,hc=>by simp at hc
 |c::cs,ys,k,i,c',hc=>by
  simp only[A0t]at k;obtain⟨y,a,rfl,h1,h2⟩:=k;cases i with
  |zero=>simp at hc;subst hc;exact⟨y,rfl,h1⟩
  |succ i=>simpa using A0t.get h2 (i:=i) (by simpa using hc)
def A0t.append{G}:∀{cs ds:List AV} {ys zs:List Value},A0t G cs ys->A0t G ds zs->A0t G (cs++ds) (ys++zs)
 |[],ds,ys,zs,k,h=>by simp only[A0t]at k;subst k;exact h
 |c::cs,ds,ys,zs,k,h=>by simp only[A0t]at k;obtain⟨y,a,rfl,h1,h2⟩:=k;simp only[Z0V,A0t];exact⟨_,_,rfl,h1,A0t.append h2 h⟩
def A0t.take{G}:∀{cs:List AV} {ys:List Value},A0t G cs ys->∀n,A0t G (cs.take n) (ys.take n)
 |[],ys,k,n=>by simp only[A0t]at k;subst k;simp[A0t]
 |c::cs,ys,k,n=>by
  simp only[A0t]at k;obtain⟨y,a,rfl,h1,h2⟩:=k;cases n with
  |zero=>simp[A0t]
  |succ n=>simp only[Z0B,A0t];exact⟨_,_,rfl,h1,A0t.take h2 n⟩
def A0t.drop{G}:∀{cs:List AV} {ys:List Value},A0t G cs ys->∀n,A0t G (cs.drop n) (ys.drop n)
 |[],ys,k,n=>by simp only[A0t]at k;subst k;simp[A0t]
 |c::cs,ys,k,n=>by
  cases n with
  |zero=>simpa using k
  |succ n=>simp only[A0t]at k;obtain⟨y,a,rfl,h1,h2⟩:=k;simpa using A0t.drop h2 n
def A0N.get{G}:∀{cs:List AV} {b i:Nat},A0N G cs b i->∀{j:Nat} {c:AV},cs[j]?=some c->∃v,G.st b (i+j)=some v/\v.oneCell'=true/\Rep G c v
 |[],_,_,_,j,c,hc=>by simp at hc
 |c::cs,b,i,k,j,c',hc=>by
  simp only[A0N]at k;obtain⟨⟨v,hv⟩,h2⟩:=k;cases j with
  |zero=>simp at hc;subst hc;exact⟨v,hv⟩
  |succ j=>obtain⟨v',h⟩:=A0N.get h2 (j:=j) (by simpa using hc);exact⟨v',by rw[show i+(j+1)=i+1+j from by omega];exact h.1,h.2⟩
def A0N.drop{G}:∀{cs:List AV} {b i:Nat},A0N G cs b i->∀n,A0N G (cs.drop n) b (i+n)
 |[],_,_,_,n=>by simp[A0N]
 |c::cs,b,i,k,n=>by
  cases n with
  |zero=>simpa using k
  |succ n=>simp only[A0N]at k;rw[show i+(n+1)=i+1+n from by omega];simpa using A0N.drop k.2 n
def A0N.take{G}:∀{cs:List AV} {b i:Nat},A0N G cs b i->∀n,A0N G (cs.take n) b i
 |[],_,_,_,n=>by simp[A0N]
 |c::cs,b,i,k,n=>by
  cases n with
  |zero=>simp[A0N]
  |succ n=>simp only[A0N,Z0B]at k|-;exact⟨k.1,A0N.take k.2 n⟩
def A0N.append{G}:∀{cs ds:List AV} {b i:Nat},A0N G cs b i->A0N G ds b (i+cs.length)->A0N G (cs++ds) b i
 |[],_,_,_,_,h=>by simpa using h
 |c::cs,ds,b,i,k,h=>by simp only[A0N,Z0V]at k|-;exact⟨k.1,A0N.append k.2 (by rw[show i+1+cs.length=i+(c::cs).length from by simp;omega];exact h)⟩
def A0N.vals{G}:∀{cs:List AV} {b i:Nat},A0N G cs b i->∃vs:List Value,A0t G cs vs/\vs.length=cs.length/\(∀v∈vs,v.oneCell'=true)/\∀j v,vs[j]?=some v->G.st b (i+j)=some v
 |[],_,_,_=>⟨[],by simp[A0t],rfl,by simp,by simp⟩
 |c::cs,b,i,k=>by
  simp only[A0N]at k;obtain⟨⟨v,hv,ho,h1⟩,h2⟩:=k;obtain⟨vs,h3,h4,h5,h6⟩:=A0N.vals h2;refine⟨v::vs,by simp only[A0t];exact⟨v,vs,rfl,h1,h3⟩,by simp[h4],by simpa[ho]using h5,?_⟩;intro j u hu;cases j with
  |zero=>simp at hu;subst hu;exact hv
  |succ j=>rw[show i+(j+1)=i+1+j from by omega];exact h6 j u (by simpa using hu)
def A0N.mk{G}:∀{cs:List AV} {vs:List Value} {b i:Nat},A0t G cs vs->(∀v∈vs,v.oneCell'=true)->(∀j v,vs[j]?=some v->G.st b (i+j)=some v)->A0N G cs b i
 |[],_,_,_,_,_,_=>by simp[A0N]
 |c::cs,vs,b,i,k,ho,h=>by simp only[A0t]at k;obtain⟨y,a,rfl,h1,h2⟩:=k;simp only[A0N];exact⟨⟨y,by simpa using h 0 y rfl,ho y (by simp),h1⟩,A0N.mk h2 (λv hv=>ho v (by simp[hv])) (λj v hv=>by rw[show i+1+j=i+(j+1)from by omega];exact h (j+1) v (by simpa using hv))⟩
def A0C.row{G}{sz}:∀{rs:List (List AV)} {b i:Nat},A0C G sz rs b i->∀{j:Nat} {r:List AV},rs[j]?=some r->r.length=sz/\A0N G r b (i+j*sz)
 |[],_,_,_,j,r,hr=>by simp at hr
 |r::rs,b,i,k,j,r',hr=>by
  simp only[A0C]at k;cases j with
  |zero=>simp at hr;subst hr;simpa using k.1
  |succ j=>have:=A0C.row k.2 (j:=j) (by simpa using hr);refine⟨this.1,?_⟩;rw[show i+(j+1)*sz=i+sz+j*sz from by rw[Z0M];omega];exact this.2
def A0C.flat{G}{sz}:∀{rs:List (List AV)} {b i:Nat},A0C G sz rs b i->A0N G rs.flatten b i/\rs.flatten.length=rs.length*sz
 |[],_,_,_=>by simp[A0N]
 |r::rs,b,i,k=>by
  simp only[A0C]at k;have h:=A0C.flat k.2;refine⟨?_,?_⟩
  .simp only[Z0X];exact A0N.append k.1.2 (by rw[k.1.1];exact h.1)
  .simp only[Z0X,Z0t,Z0x,h.2,k.1.1,Z0M];omega
def A0C.mk{G}{sz}:∀{rs:List (List AV)} {b i:Nat},(∀r∈rs,r.length=sz)->A0N G rs.flatten b i->A0C G sz rs b i
 |[],_,_,_,_=>by simp[A0C]
 |r::rs,b,i,hs,k=>by simp only[A0C];have hr:r.length=sz:=hs r (by simp);have h1:=A0N.take k r.length;have h2:=A0N.drop k r.length;simp only[Z0X,Z4p,List.drop_left]at h1 h2;exact⟨⟨hr,h1⟩,A0C.mk (λx hx=>hs x (by simp[hx])) (by rw[<-hr];exact h2)⟩
def A0C.sizes{G}{sz}{rs}{b i}(k:A0C G sz rs b i):∀r∈rs,r.length=sz:=by intro r hr;obtain⟨j,hj,rfl⟩:=List.mem_iff_getElem.1 hr;exact(A0C.row k (j:=j) (by simp[hj])).1
def A0C.take{G}{sz}:∀{rs:List (List AV)} {b i:Nat},A0C G sz rs b i->∀n,A0C G sz (rs.take n) b i
 |[],_,_,_,n=>by simp[A0C]
 |r::rs,b,i,k,n=>by
  cases n with
  |zero=>simp[A0C]
  |succ n=>simp only[A0C,Z0B]at k|-;exact⟨k.1,A0C.take k.2 n⟩
def A0C.drop{G}{sz}:∀{rs:List (List AV)} {b i:Nat},A0C G sz rs b i->∀n,A0C G sz (rs.drop n) b (i+n*sz)
 |[],_,_,_,n=>by simp[A0C]
 |r::rs,b,i,k,n=>by
  cases n with
  |zero=>simpa using k
  |succ n=>simp only[A0C]at k;rw[show i+(n+1)*sz=i+sz+n*sz from by rw[Z0M];omega];simpa using A0C.drop k.2 n
inductive A0m where
 |gone
 /-- a variable,of type t -/
 |cells (t:TypeId) (cs:List AV)
 |fam (m sz:Nat)
 /-- an array that may be written:its cells,its time,and which of its slices (by time and length) still read as its first cells -/
 |vec (e:TypeId) (sz:Nat) (cs:List AV) (g:Nat) (hist:List (Nat×Nat))
 /-- a map:keys,values,ages -/
 |map (es:List (AV×AV×Nat)) (clock:Nat)
 |siter (s:ByteArray) (pos:Nat)
 |miter (m:Option Nat) (since:Nat) (A1i:List Nat) (stepped:Nat)
abbrev Mem:=List A0m
abbrev Env:=Nat->AV
def A2N(G:A0o)(k:Nat)(o:A0m)(b:Nat):Prop:=match o with
 |.gone=>False
 |.fam m _=>m<(G.hdr k m).2/\∃a,(G.hdr k m).1=some a/\a.block=b
 |.vec _ _ _ _ hist=>∃h n a,(h,n)∈hist/\(G.hdr k h).1=some a/\a.block=b
 |_=>b=G.blk k
def E0x(G:A0o)(w:World)(k:Nat)(t:TypeId)(sz:Nat)(cs:List AV)(h n:Nat):Prop:=h<=G.top k/\n*sz<=cs.length/\∃b o cap vs,G.hdr k h=(some ⟨b,o,none⟩,cap)/\n<=cap/\cap<=maxLen/\w.heap[b]?=some (.cells vs t (0,0))/\o+cap*sz<=vs.size/\A0t G (cs.take (n*sz)) ((vs.toList.drop o).take (n*sz))/\(∀v∈(vs.toList.drop o).take (n*sz),v.oneCell'=true)/\(∀i,G.st b i=none)/\G.keep b=none
def B4N(G:A0o)(e:AV×AV×Nat)(x:MapEntry):Prop:=Rep G e.1 x.key/\Rep G e.2.1 x.val/\x.born=e.2.2
inductive A1r (G:A0o):List (AV×AV×Nat)->List MapEntry->Prop
 |nil:A1r G [] []
 |cons {e x es xs}:B4N G e x->A1r G es xs->A1r G (e::es) (x::xs)
def A1r.mono{G G'}(h:G.le G'){es}{xs}(k:A1r G es xs):A1r G' es xs:=by
 induction k with
 |nil=>exact .nil
 |cons h1 _ ih=>exact .cons ⟨Rep.mono h _ _ h1.1,Rep.mono h _ _ h1.2.1,h1.2.2⟩ ih
def A4y(G:A0o)(w:World)(k:Nat):A0m->Prop
 |.gone=>True
 |.cells t cs=>∃(vs:Array Value),w.heap[G.blk k]?=some (.cells vs t (0,0))/\A0t G cs vs.toList/\(∀v∈vs.toList,v.oneCell'=true)/\(∀i,G.st (G.blk k) i=none)/\G.keep (G.blk k)=none
 |.fam m sz=>G.top k=m/\m<=(G.hdr k m).2/\(G.hdr k m).2<=maxLen/\(m<(G.hdr k m).2->∃(g:Nat) (vs:Array Value) (t:TypeId),(G.hdr k m).1=some ⟨g,0,none⟩/\w.heap[g]?=some (.cells vs t (0,0))/\(G.hdr k m).2*sz<=vs.size/\(∀i,m*sz<=i->G.st g i=none)/\G.keep g=none)
 |.vec e sz cs g hist=>G.top k=g/\(∀h n,(h,n)∈hist->E0x G w k e sz cs h n)/\(∀h n h' n' a a' c c',(h,n)∈hist->(h',n')∈hist->G.hdr k h=(some a,c)->G.hdr k h'=(some a',c')->a.block=a'.block->a=a')
 |.map es clock=>∃xs:Array MapEntry,w.heap[G.blk k]?=some (.map xs clock)/\A1r G es xs.toList/\G.keep (G.blk k)=none
 |.siter s pos=>w.heap[G.blk k]?=some (.stringIter s pos)/\G.keep (G.blk k)=none
 |.miter m since A1i stepped=>w.heap[G.blk k]?=some (.mapIter (m.map G.blk) since A1i.toArray stepped)/\(∀b∈m,b<G.n)/\G.keep (G.blk k)=none
structure Ctx where
 P:Program
 gl:Nat->AV
 /-- variables whose whole memory is known -/
 tab:Nat->Option (Array Value)
 /-- types of slices that are made as data,whatever the hint says -/
 data:TypeId->Bool
structure Inv (C:Ctx) (G:A0o) (M:Mem) (w:World):Prop where
 n:G.n=M.length
 st:∀b i v,G.st b i=some v->w.cell? ⟨b,i,none⟩=some v
 keep:∀b o,G.keep b=some o->w.heap[b]?=some o
 obj:∀k o,M[k]?=some o->A4y G w k o
 apart:∀j k x y b,M[j]?=some x->M[k]?=some y->A2N G j x b->A2N G k y b->j=k
 gl:∀g,Rep G (C.gl g) (.pointer (some ⟨g,0,none⟩))
 tab:∀g cs,C.tab g=some cs->∃t f,G.keep g=some (.cells cs t f)
def Inv.tab_le{C}{G G'}{M}{w}(hi:Inv C G M w)(a:G.le G'):∀g cs,C.tab g=some cs->∃t f,G'.keep g=some (.cells cs t f):=λg cs h=>by obtain⟨t,f,k⟩:=hi.tab g cs h;exact⟨t,f,a.keep _ _ k⟩
structure Ext (w w':World):Prop where
 os:w'.os=w.os
 tape:w'.tape=w.tape
 output:w'.output=w.output
 size:w.heap.size<=w'.heap.size
def Ext.refl(w:World):Ext w w:=⟨rfl,rfl,rfl,Z0n _⟩
def Ext.trans{a b c}(h:Ext a b)(k:Ext b c):Ext a c:=⟨k.os.trans h.os,k.tape.trans h.tape,k.output.trans h.output,Z0R h.size k.size⟩
def A0S{α:Type}{l:List α}{k:Nat}{x:α}(h:l[k]?=some x):k<l.length:=by
 rcases Z3G k l.length with h'|h'
 .exact h'
 .simp[Z1s h']at h
def A3z{w:World}{b:Nat}{o:Obj}(h:w.heap[b]?=some o):b<w.heap.size:=(Z2a.1 h).1
def A4y.owns_lt{G:A0o}{w:World}{k:Nat}{o:A0m}(h:A4y G w k o){b:Nat}(ho:A2N G k o b):b<w.heap.size:=by
 cases o with
 |gone=>exact ho.elim
 |cells t cs=>obtain⟨vs,h1,_⟩:=h;simp only[A2N]at ho;subst ho;exact A3z h1
 |fam m sz=>obtain⟨c,a,ha,rfl⟩:=ho;obtain⟨g,vs,t,q1,q2,_⟩:=h.2.2.2 c;rw[q1]at ha;simp only[Z0b]at ha;subst ha;exact A3z q2
 |vec e sz rows g hist=>obtain⟨h',n,a,hm,ha,rfl⟩:=ho;obtain⟨_,_,b,o,cap,vs,q1,_,_,q2,_⟩:=h.2.1 h' n hm;rw[q1]at ha;simp only[Z0b]at ha;subst ha;exact A3z q2
 |map es clock=>obtain⟨xs,h1,_⟩:=h;simp only[A2N]at ho;subst ho;exact A3z h1
 |siter s pos=>simp only[A2N]at ho;subst ho;exact A3z h.1
 |miter m since A1i stepped=>simp only[A2N]at ho;subst ho;exact A3z h.1
def A4y.keeps{G G'}{w w'}{k}{o}(h:A4y G w k o)(j:G.le G')(hk:k<G.n)(a:G'.blk k=G.blk k)(d:G'.hdr k=G.hdr k/\G'.top k=G.top k) (p:∀b,A2N G k o b->∀i v,G'.st b i=some v->G.st b i=some v)(c:∀b,G'.keep b=G.keep b)(hw:∀b,A2N G k o b->w'.heap[b]?=w.heap[b]?):A4y G' w' k o:=by
 have A7S:∀b,A2N G k o b->∀i,G.st b i=none->G'.st b i=none:=by
  intro b hb i hn;cases hs:G'.st b i with
  |none=>rfl
  |some v=>rw[p b hb i v hs]at hn;simp at hn
 cases o with
 |gone=>trivial
 |cells t cs=>
  obtain⟨vs,h1,h2,h3,h4,h5⟩:=h
  refine⟨vs,by rw[a,hw _ rfl];exact h1,A0t.mono j _ _ h2,h3,λi=>?_,by rw[a,c];exact h5⟩
  rw[a];exact A7S _ rfl i (h4 i)
 |fam m sz=>
  obtain⟨h0,h1,q,h2⟩:=h
  simp only[A4y,d.1,d.2]
  refine⟨h0,h1,q,λl=>?_⟩
  obtain⟨g,vs,t,q1,q2,q3,q4,q5⟩:=h2 l
  have f:A2N G k (.fam m sz) g:=⟨l,_,q1,rfl⟩
  exact⟨g,vs,t,q1,by rw[hw _ f];exact q2,q3,λi hi'=>A7S _ f i (q4 i hi'),by rw[c];exact q5⟩
 |vec e sz rows g hist=>
  obtain⟨h0,h2,h3⟩:=h
  simp only[A4y,d.1,d.2]
  refine⟨h0,λh' n hm=>?_,h3⟩
  obtain⟨p1,p2,b,o,cap,vs,q1,q2,q3,q4,q5,q6,q7,q8,q9⟩:=h2 h' n hm
  have f:A2N G k (.vec e sz rows g hist) b:=⟨h',n,_,hm,by rw[q1],rfl⟩
  exact⟨by rw[d.2];exact p1,p2,b,o,cap,vs,by rw[d.1];exact q1,q2,q3,by rw[hw _ f];exact q4,q5,A0t.mono j _ _ q6,q7,λi=>A7S _ f i (q8 i),by rw[c];exact q9⟩
 |map es clock=>
  obtain⟨xs,h1,h2,h3⟩:=h
  exact⟨xs,by rw[a,hw _ rfl];exact h1,h2.mono j,by rw[a,c];exact h3⟩
 |siter s pos=>exact⟨by rw[a,hw _ rfl];exact h.1,by rw[a,c];exact h.2⟩
 |miter m since A1i stepped=>
  refine⟨?_,λb hb=>Z1j (h.2.1 b hb) j.n,by rw[a,c];exact h.2.2⟩
  have e:m.map G'.blk=m.map G.blk:=by
   cases m with
   |none=>rfl
   |some b=>simp[j.blk b (h.2.1 b rfl)]
  rw[a,hw _ rfl,h.1,e]
def Inv.step{C:Ctx}{G G':A0o}{M:Mem}{w w':World}(hi:Inv C G M w)(k gb:Nat){o o':A0m}(hk:M[k]?=some o)
 (a7:A2N G k o gb\/w.heap.size<=gb)(a0:G.le G')(hn:G'.n=G.n)(z:∀b,G'.blk b=G.blk b)
 (u:∀f,f≠k->G'.hdr f=G.hdr f/\G'.top f=G.top f)
 (a1:∀b i v,G'.st b i=some v->G.st b i=some v\/(b=gb/\w'.cell? ⟨b,i,none⟩=some v))(m:∀b,G'.keep b=G.keep b)
 (hw:∀b,b<w.heap.size->b≠gb->w'.heap[b]?=w.heap[b]?)(a3:∀i v,G.st gb i=some v->w'.cell? ⟨gb,i,none⟩=some v)(q:∀o,G.keep gb≠some o)
 (ho:A4y G' w' k o')(a2:∀b,A2N G' k o' b->b=gb\/A2N G k o b):Inv C G' (M.set k o') w':=by
 have t:=A0S hk
 have c:∀b i v,w.cell? ⟨b,i,none⟩=some v->b<w.heap.size:=λb i v h=>Z2j w ⟨b,i,none⟩ h
 have d:∀j x b,M[j]?=some x->j≠k->A2N G j x b->b≠gb:=by
  intro j x b hj a6 hb e;subst e;have p:=(hi.obj j x hj).owns_lt hb;rcases a7 with h|h
  .exact a6 (hi.apart j k x o b hj hk hb h)
  .omega
 have a:∀j x b,j≠k->(A2N G' j x b<->A2N G j x b):=by intro j x b hj;cases x<;>simp[A2N,z,(u j hj).1]
 refine⟨by rw[hn];simpa using hi.n,?_,?_,?_,?_,λg=>Rep.mono a0 _ _ (hi.gl g),hi.tab_le a0⟩
 .intro b i v hv;rcases a1 b i v hv with h|⟨_,h⟩
  .by_cases e:b=gb
   .subst e;exact a3 i v h
   .have:=hi.st b i v h;have p:=c b i v this;simpa[World.cell?,hw b p e]using this
  .exact h
 .intro b x hx;rw[m]at hx;have h0:=hi.keep b x hx;have p:b<w.heap.size:=(Z2a.1 h0).1;have a5:b≠gb:=by intro e;subst e;exact q x hx
  rw[hw b p a5];exact h0
 .intro j x hj;by_cases e:j=k
  .subst e;simp[t]at hj;subst hj;exact ho
  ·(have r:M[j]?=some x:=by have:k≠j:=λh=>e h.symm;simpa[Z2m,this]using hj);have hx:=hi.obj j x r;refine hx.keeps a0 (by rw[hi.n];exact A0S r) (z j) (u j e) (λb hb i v hv=>?_) m (λb hb=>hw b (hx.owns_lt hb) (d j x b r e hb));rcases a1 b i v hv with h|⟨h,_⟩
   .exact h
   .exact absurd h (d j x b r e hb)
 .intro i j x y b hx hy ox oy;have l:∀i x,i≠k->(M.set k o')[i]?=some x->M[i]?=some x:=by intro i x e hx;have:k≠i:=λh=>e h.symm;simpa[Z2m,this]using hx
  have key:∀i j x y,i=k->j≠k->(M.set k o')[i]?=some x->(M.set k o')[j]?=some y->A2N G' i x b->A2N G' j y b->False:=by
   intro i j x y e1 e2 hx hy ox oy;subst e1;simp[t]at hx;subst hx;have s:=l j y e2 hy;rw[a j y b e2]at oy;rcases a2 b ox with hb|hb
   .exact d j y b s e2 oy hb
   .exact e2 (hi.apart j i y o b s hk oy hb)
  by_cases e1:i=k<;>by_cases e2:j=k
  .rw[e1,e2]
  .exact(key i j x y e1 e2 hx hy ox oy).elim
  .exact(key j i y x e2 e1 hy hx oy ox).elim
  .have a4:=l i x e1 hx;have s:=l j y e2 hy;rw[a i x b e1]at ox;rw[a j y b e2]at oy;exact hi.apart i j x y b a4 s ox oy
def A0o.more(G:A0o)(nb:Nat)(h:Nat->Option Addr×Nat)(t:Nat):A0o:={G with n:=G.n+1,blk:=λb=>if b=G.n then nb else G.blk b,hdr:=λf=>if f=G.n then h else G.hdr f,top:=λf=>if f=G.n then t else G.top f}
def A0o.le_more(G:A0o)(nb:Nat)(h:Nat->Option Addr×Nat)(t:Nat):G.le (G.more nb h t):=⟨Nat.le_succ _,λb hb=>Z0d (by omega),λ_ _ _ h=>h,λ_ _ h=>h,λf hf=>by simp only[A0o.more];rw[Z0d (by omega)];exact Z0n _,λf hf k _=>by simp only[A0o.more];rw[Z0d (by omega)]⟩
def Inv.more{C}{G}{M}{w}(hi:Inv C G M w)(nb:Nat)(h:Nat->Option Addr×Nat)(t:Nat):Inv C (G.more nb h t) (M++[.gone]) w:=by
 have c:=G.le_more nb h t;have a:∀j x,(M++[A0m.gone])[j]?=some x->(j<G.n/\M[j]?=some x)\/x=A0m.gone:=by
  intro j x h;by_cases hj:j<M.length
  .left;exact⟨by rw[hi.n];exact hj,by rwa[Z0i hj]at h⟩
  .right;rw[Z1y (by omega)]at h;have:=Z2O h;simpa using this
 have ob:∀k x b,k<G.n->(A2N (G.more nb h t) k x b<->A2N G k x b):=λk x b hk=>by
  have:k≠G.n:=by omega
  cases x<;>simp[A2N,A0o.more,this]
 refine⟨by simpa[A0o.more]using hi.n,hi.st,hi.keep,?_,?_,λg=>Rep.mono c _ _ (hi.gl g),hi.tab_le c⟩
 .intro j x hj;rcases a j x hj with⟨e,h⟩|rfl
  ·(have d:j≠G.n:=by omega);exact(hi.obj j x h).keeps c e (by simp[A0o.more,d]) (by simp[A0o.more,d]) (λ_ _ _ _ h=>h) (λ_=>rfl) (λ_ _=>rfl)
  .trivial
 .intro i j x y b hx hy ox oy;rcases a i x hx with⟨hl,h⟩|rfl
  .rcases a j y hy with⟨f,h'⟩|rfl
   .rw[ob i x b hl]at ox;rw[ob j y b f]at oy;exact hi.apart i j x y b h h' ox oy
   .exact oy.elim
  .exact ox.elim
def Inv.world{C:Ctx}{G:A0o}{M:Mem}{w w':World}(hi:Inv C G M w)(h:w'.heap=w.heap):Inv C G M w':=by
 refine⟨hi.n,λb i v hv=>?_,λb o ho=>?_,λk o hk=>?_,hi.apart,hi.gl,hi.tab⟩
 .have:=hi.st b i v hv;simpa[World.cell?,h]using this
 .rw[h];exact hi.keep b o ho
 .exact(hi.obj k o hk).keeps (.refl _) (by rw[hi.n];exact A0S hk) rfl ⟨rfl,rfl⟩ (λ_ _ _ _ h=>h) (λ_=>rfl) (λ_ _=>by rw[h])
def Env.put(T:Env)(d:Option Nat)(v:AV):Env:=match d with
 |none=>T
 |some d=>λj=>if j=d then v else T j
@[simp] def Env.put_none(T:Env)(v:AV):T.put none v=T:=(rfl)
def Env.put_some(T:Env)(d:Nat)(v:AV)(j:Nat):T.put (some d) v j=if j=d then v else T j:=rfl
def Env.of(args:List AV):Env:=λi=>args.getD i .poison
structure A1R (G:A0o) (N:Nat) (T:Env) (a:Act):Prop where
 defers:a.defers=[]
 size:a.tmps.size=N
 at_:∀i,i<N->Rep G (T i) (a.tmps.getD i undef)
def A1R.mono{G G'}(h:G.le G'){N}{T}{a}(k:A1R G N T a):A1R G' N T a:=⟨k.defers,k.size,λi hi=>Rep.mono h _ _ (k.at_ i hi)⟩
def A1R.put{G}{N}{T}{a}(k:A1R G N T a){d}{v}{x}(hv:Rep G v x):A1R G N (T.put d v) (a.put d x):=by
 cases d with
 |none=>exact k
 |some d=>
  refine⟨k.defers,by simpa[Act.put]using k.size,λi hi=>?_⟩;have h0:=k.at_ i hi;have hs:=k.size;rw[Env.put_some];by_cases e:i=d
  .subst e;rw[Z0e rfl];simpa[Act.put,Array.getD,hi,hs]using hv
  .rw[Z0d e];have b:d≠i:=λh=>e h.symm;simpa[Act.put,Array.getD,hi,hs,Array.getElem_setIfInBounds,b]using h0
def A1R.of{G}{args}{vs}(n:Nat)(k:A0t G args vs):
 A1R G (vs.length+n) (Env.of args) {tmps:=vs.toArray++Array.replicate n undef,defers:=[]}:=by
 refine⟨rfl,by simp,λi hi=>?_⟩
 by_cases h:i<args.length
 .obtain⟨y,hy,hr⟩:=k.get (i:=i) (c:=args[i]) (by simp[h]);have b:=k.length;have a:i<vs.length:=by omega
  have e1:Env.of args i=args[i]:=by simp[Env.of,h]
  rw[e1];have:vs[i]=y:=by rw[Z0l a]at hy;exact Z1H hy
  simpa[Array.getD,a,Array.getElem_append,this,hi]using hr
 .have e1:Env.of args i=.poison:=by(have:args.length<=i:=by omega);simp[Env.of,List.getD,Z1s this]
  rw[e1];simp[Rep]
def Env.ev(C:Ctx)(T:Env):Operand->AV
 |.tmp t=>T t
 |.const v=>.val v
 |.global g=>C.gl g
 |.func f=>.func (.func f) [] []
def Operand.inside(N:Nat):Operand->Bool
 |.tmp t=>decide (t<N)
 |_=>true
def C8t{C}{G}{M}{w}{N}{T}{a}(hi:Inv C G M w)(he:A1R G N T a)(x:Operand)(hx:Operand.inside N x=true):Rep G (T.ev C x) (a.eval x):=by
 cases x with
 |tmp t=>simp only[Env.ev,Act.eval];exact he.at_ t (by simpa[Operand.inside]using hx)
 |const v=>simp[Env.ev,Act.eval,Rep]
 |global g=>exact hi.gl g
 |func f=>simp[Env.ev,Act.eval,Rep,A0t]
def B1E(C:Ctx)(N:Nat)(Q:Exit->Env->Mem->Prop)(G:A0o)(w:World):Exit->Act->World->Prop:=λe a' w'=>∃T' M' G',Q e T' M'/\G.le G'/\Inv C G' M' w'/\A1R G' N T' a'/\Ext w w'
def B1E.mono{C}{N}{Q:Exit->Env->Mem->Prop}{G G'}{w w'}(h:G.le G')(k:Ext w w'){e}{a}{v} (l:B1E C N Q G' w' e a v):B1E C N Q G w e a v:=by
 obtain⟨T',M',b,h1,h2,h3,h4,h5⟩:=l
 exact⟨T',M',b,h1,h.trans h2,h3,h4,k.trans h5⟩
def B1E.weaken{C}{N}{Q Q':Exit->Env->Mem->Prop}{G}{w}(h:∀e T M,Q e T M->Q' e T M){e}{a}{v} (l:B1E C N Q G w e a v):B1E C N Q' G w e a v:=by
 obtain⟨T',M',b,h1,h2⟩:=l
 exact⟨T',M',b,h _ _ _ h1,h2⟩
def AWp(C:Ctx)(N:Nat)(c:Code)(Q:Exit->Env->Mem->Prop)(T:Env)(M:Mem):Prop:=∀G w a,Inv C G M w->A1R G N T a->c.wp C.P (B1E C N Q G w) a w
def A0e(C:Ctx)(f:FuncId)(args:List AV)(M:Mem)(Q:AV->Mem->Prop):Prop:=∀G w (vs:List Value),Inv C G M w->A0t G args vs->Calls C.P f vs.toArray w λe w'=>∃r M' G' v,e=.returned v/\Q r M'/\G.le G'/\Inv C G' M' w'/\Rep G' r v/\Ext w w'
def A0e.mono{C}{f}{args}{M}{Q Q':AV->Mem->Prop}(h:A0e C f args M Q)(hq:∀r M',Q r M'->Q' r M'):A0e C f args M Q':=by intro G w vs hi hr;refine Z2B (h G w vs hi hr) ?_;rintro e w' ⟨r,M',G',v,rfl,h1,h2⟩;exact⟨r,M',G',v,rfl,hq _ _ h1,h2⟩
section control
variable {C:Ctx} {N:Nat} {Q Q':Exit->Env->Mem->Prop} {T:Env} {M:Mem}
def AWp.mono{c}(h:AWp C N c Q T M)(hq:∀e T M,Q e T M->Q' e T M):AWp C N c Q' T M:=λG w a hi he=>Z4q (h G w a hi he) λ_ _ _ l=>B1E.weaken hq l
def A7v(K:Env->Mem->Prop)(Q:Exit->Env->Mem->Prop):Exit->Env->Mem->Prop
 |.normal,T,M=>K T M
 |e,T,M=>Q e T M
def C6s(h:Q .normal T M):AWp C N .skip Q T M:=λG w a hi he=>wp_skip ⟨T,M,G,h,.refl _,hi,he,.refl _⟩
def C2t{l}(h:Q .normal T M):AWp C N (.label l) Q T M:=λG w a hi he=>wp_label ⟨T,M,G,h,.refl _,hi,he,.refl _⟩
def C6L{id}(h:Q (.exit id) T M):AWp C N (.exit id) Q T M:=λG w a hi he=>wp_exit ⟨T,M,G,h,.refl _,hi,he,.refl _⟩
def D0x(h:Q .ret T M):AWp C N .ret Q T M:=λG w a hi he=>wp_ret ⟨T,M,G,h,.refl _,hi,he,.refl _⟩
def B7I{x y}(h:AWp C N x (A7v (AWp C N y Q) Q) T M):AWp C N (.seq x y) Q T M:=by
 intro G w a hi he;refine wp_seq (Z4q (h G w a hi he) ?_);rintro e a' w' ⟨T',M',G',h1,h2,h3,h4,h5⟩;cases e with
 |normal=>exact Z4q (h1 G' w' a' h3 h4) λ_ _ _ l=>B1E.mono h2 h5 l
 |_=>exact⟨T',M',G',h1,h2,h3,h4,h5⟩
def A5l(id:Nat)(Q:Exit->Env->Mem->Prop):Exit->Env->Mem->Prop
 |.exit id',T,M=>if id'=id then Q .normal T M else Q (.exit id') T M
 |e,T,M=>Q e T M
def C2V{id}{c}(h:AWp C N c (A5l id Q) T M):AWp C N (.block id c) Q T M:=by
 intro G w a hi he;refine wp_block (Z4q (h G w a hi he) ?_);rintro e a' w' ⟨T',M',G',h1,h2⟩;cases e with
 |exit id'=>
  simp only[A5l,Exit.inBlock]at h1|-;by_cases e:id'=id
  .rw[Z0e e]at h1|-;exact⟨T',M',G',h1,h2⟩
  .rw[Z0d e]at h1|-;exact⟨T',M',G',h1,h2⟩
 |_=>exact⟨T',M',G',h1,h2⟩
def C6I{c}{x y}{t}(b:Operand.inside N c=true)(hc:T.ev C c=.val (.bool t))(ht:t=true->AWp C N x Q T M)(hf:t=false->AWp C N y Q T M):AWp C N (.cond c x y) Q T M:=by intro G w a hi he;have h:=C8t hi he c b;rw[hc]at h;simp only[Rep]at h;exact wp_cond_split h (λe=>ht e G w a hi he) (λe=>hf e G w a hi he)
def D5I{c}(I:Env->Mem->Prop)(μ:Env->Mem->Nat)(h0:I T M) (f:∀T M,I T M->AWp C N c (A7v (λT' M'=>I T' M'/\μ T' M'<μ T M) Q) T M):AWp C N (.loop c) Q T M:=by
 intro G w a hi he b k cs
 have key:∀n T M G w a,μ T M=n->I T M->Inv C G M w->A1R G N T a->
  ∃e a' w',B1E C N Q G w e a' w'/\Arrives C.P (lone (b.at a (.code c::.inLoop c::k)) cs w) b k cs e a' w':=by
  intro n
  induction n using Nat.strongRecOn with
  |_ n ih=>
   intro T M G w a hn hI hi he
   obtain⟨e,a₁,w₁,hq,d⟩:=f T M hI G w a hi he b (.inLoop c::k) cs
   obtain⟨T',M',G',h1,h2,h3,h4,h5⟩:=hq
   cases e with
   |normal=>
    obtain⟨j,i⟩:=h1
    obtain⟨e₂,a₂,w₂,h,g⟩:=ih (μ T' M') (hn▸i) T' M' G' w₁ a₁ rfl j h3 h4
    exact⟨e₂,a₂,w₂,B1E.mono h2 h5 h,.of_steps (Steps.trans d (.one step_inLoop)) g⟩
   |exit id=>exact⟨_,a₁,w₁,⟨T',M',G',h1,h2,h3,h4,h5⟩,.pass (x:=.inLoop c) rfl (λ_ _=>.inl (by simp)) d⟩
   |goto l=>exact⟨_,a₁,w₁,⟨T',M',G',h1,h2,h3,h4,h5⟩,.pass (x:=.inLoop c) rfl (λ_ _=>.inl (by simp)) d⟩
   |ret=>exact⟨_,a₁,w₁,⟨T',M',G',h1,h2,h3,h4,h5⟩,.pass (x:=.inLoop c) rfl (λ_ _=>.inl (by simp)) d⟩
   |panic ch=>exact⟨_,a₁,w₁,⟨T',M',G',h1,h2,h3,h4,h5⟩,.pass (x:=.inLoop c) rfl (λ_ _=>.inl (by simp)) d⟩
   |outgrown=>exact⟨_,a₁,w₁,⟨T',M',G',h1,h2,h3,h4,h5⟩,.pass (x:=.inLoop c) rfl (λ_ _=>.inl (by simp)) d⟩
 obtain⟨e,a',w',hq,d⟩:=key _ T M G w a rfl h0 hi he
 exact⟨e,a',w',hq,.of_steps (.one step_loop) d⟩
end control
def A1u(P:Program)(t:TypeId):Option Nat:=(P.info? t).map (·.size)
def A2w(P:Program)(t:TypeId):Option Bool:=(P.underlying t).map λd=>match d with|.struct _|.array _ _=>true|_=>false
def C3Y(P:Program)(t:TypeId):Option Nat:=(P.info? t).map (·.bytes)
def A1f(P:Program)(t:TypeId):Option TypeId:=match P.underlying t with|some (.slice e)=>some e|_=>none
def A1t(P:Program)(t:TypeId)(f:Nat):Option Nat:=match P.underlying t with
 |some (.struct fs)=>match fs[f]? with
  |some x=>match A1u P x.type with
   |some 0=>none
   |some _=>some x.offset
   |none=>none
  |none=>none
 |_=>none
section
variable {P:Program}
def A2k{t:TypeId}{n}(h:A1u P t=some n)(w:World):(sizeOf t).run P w=.ok n w:=by
 unfold A1u at h;cases hi:P.info? t with
 |none=>simp[hi]at h
 |some i=>simp[hi]at h;simp[sizeOf,typeInfo,hi,h]
def B2T{t:TypeId}{b}(h:A2w P t=some b)(w:World):(isAgg t).run P w=.ok b w:=by
 unfold A2w at h;cases hi:P.underlying t with
 |none=>simp[hi]at h
 |some d=>simp[hi]at h;simp only[isAgg,Z0E,Z0q hi,Z0u];subst h;cases d<;>rfl
def A2C{t e:TypeId}(h:A1f P t=some e):P.underlying t=some (.slice e):=by
 unfold A1f at h;split at h
 .rename_i e' he;simp at h;subst h;exact he
 .simp at h
end
def A1n(P:Program)(t:TypeId)(cs:List AV):Option AV:=
 match A2w P t,A1u P t with
 |some true,some n=>if n<=cs.length then some (.agg (cs.take n))else none
 |some false,some _=>match cs with|c::_=>some c|[]=>none
 |_,_=>none
def A3k(M:Mem):AV->Option (List AV)
 |.cptr cs=>some cs
 |.ptr b off=>match M[b]? with
  |some (.cells _ cs)=>if off<=cs.length then some (cs.drop off)else none
  |_=>none
 |.vptr f g off=>match M[f]? with
  |some (.vec _ sz cs _ hist)=>match hist.lookup g with
   |some n=>some ((cs.take (n*sz)).drop off)
   |none=>none
  |_=>none
 |_=>none
def A3v{l:List (Nat×Nat)}{g n:Nat}(h:l.lookup g=some n):(g,n)∈l:=by
 induction l with
 |nil=>simp at h
 |cons x xs ih=>
  obtain⟨a,b⟩:=x;simp only[List.lookup_cons]at h;split at h
  .rename_i e;simp only[Z3h]at e;simp only[Z0b]at h;subst e h;exact Z3q
  .exact Z1v _ (ih h)
def C1p{C:Ctx}{G:A0o}{M:Mem}{w:World}(hi:Inv C G M w){p:AV}{x:Value}(hr:Rep G p x){cs:List AV}(h:A3k M p=some cs):∃(b i:Nat) (vs:List Value),x=.pointer (some ⟨b,i,none⟩)/\A0t G cs vs/\(∀v∈vs,v.oneCell'=true)/\∀j v,vs[j]?=some v->w.cell? ⟨b,i+j,none⟩=some v:=by
 cases p with
 |cptr ds=>
  simp only[A3k,Z0b]at h
  subst h
  simp only[Rep]at hr
  obtain⟨b,i,rfl,hm⟩:=hr
  obtain⟨vs,h1,h2,h3,h4⟩:=hm.vals
  exact⟨b,i,vs,rfl,h1,h3,λj v hv=>hi.st _ _ _ (h4 j v hv)⟩
 |ptr b off=>
  simp only[A3k]at h
  simp only[Rep]at hr
  obtain⟨hb,rfl⟩:=hr
  split at h
  .rename_i ty ds hd;split at h
   .rename_i hle;simp only[Z0b]at h;subst h;obtain⟨vs,hh,h1,h2,h3⟩:=hi.obj b _ hd;refine⟨G.blk b,off,vs.toList.drop off,rfl,h1.drop off,λv hv=>h2 v (Z1m hv),?_⟩;intro j v hv;rw[Z1e]at hv;simpa[World.cell?,hh]using hv
   .simp at h
  .simp at h
 |vptr f g off=>
  simp only[A3k]at h
  simp only[Rep]at hr
  obtain⟨hf,hg,a,cap,hd,rfl⟩:=hr
  split at h
  .rename_i ty sz ds g' hist hM;split at h
   .rename_i n hn;simp only[Z0b]at h;subst h;obtain⟨_,h2,_⟩:=hi.obj f _ hM;obtain⟨_,_,b,o,c,vs,q1,q2,q3,q4,q5,q6,q7,q8,q9⟩:=h2 g n (A3v hn);rw[hd]at q1;simp only[Z0h,Z0b]at q1;obtain⟨rfl,rfl⟩:=q1;refine⟨b,o+off,((vs.toList.drop o).take (n*sz)).drop off,rfl,q6.drop off,λv hv=>q7 v (Z1m hv),?_⟩;intro j v hv;rw[Z1e,Z0P]at hv;split at hv
    .rw[Z1e]at hv;rw[Z2Q _ _ _ _ _ _ q4,show o+off+j=o+(off+j)from by omega];simpa using hv
    .simp at hv
   .simp at h
  .simp at h
 |_=>simp[A3k]at h
def B3U{C}{G}{M}{w}(hi:Inv C G M w){p}{x}(hr:Rep G p x){t:TypeId}{cs}{r} (h:A3k M p=some cs)(hl:A1n C.P t cs=some r):∃v,(Instr.loadAt t x).run C.P w=.ok v w/\Rep G r v:=by
 obtain⟨b,i,vs,rfl,h1,h2,h3⟩:=C1p hi hr h
 have a:=h1.length
 unfold A1n at hl
 split at hl
 .rename_i n ha hs;split at hl
  .rename_i hle;simp only[Z0b]at hl;subst hl;have hc:=run_loadCells_list (P:=C.P) w ⟨b,i,none⟩ (vs.take n) (λj v hv=>by
    rw[Z0P]at hv;split at hv
    .rw[Z1t];exact h3 j v hv
    .simp at hv)
   (have hn:(vs.take n).length=n:=by rw[Z0D];omega);rw[hn]at hc
   refine⟨.agg (vs.take n).toArray,?_,?_⟩
   .simp only[Instr.loadAt,Instr.sureAddr,loadVar,Z0E,Z0K,Z0u,B2T ha,A2k hs,Z0T,hc]
   .simp only[Rep];exact⟨_,rfl,by simpa using h1.take n,λv hv=>h2 v (Z1k (by simpa using hv))⟩
  .simp at hl
 .rename_i n ha hs;split at hl
  .rename_i c cs';simp only[Z0b]at hl;subst hl;simp only[A0t]at h1;obtain⟨y,d,rfl,h5,h6⟩:=h1;refine⟨y,?_,h5⟩;have h0:=h3 0 y rfl;simp only[Z0Z]at h0;simp[Instr.loadAt,Instr.sureAddr,loadVar,B2T ha,run_load,h0]
  .simp at hl
 .simp at hl
def AV.one:AV->Bool
 |.val v=>v.oneCell'
 |.poison|.agg _|.tuple _=>false
 |_=>true
def AV.cells:AV->List AV
 |.agg cs=>cs
 |.val (.agg ys)=>ys.toList.map .val
 |v=>[v]
def AV.storable:AV->Bool
 |.agg _=>true
 |.val (.agg ys)=>ys.toList.all (·.oneCell')
 |v=>v.one
def Rep.one{G}{a}{x}(h:Rep G a x)(h1:a.one=true):x.oneCell'=true:=by
 cases a<;>simp only[AV.one,Z0H]at h1<;>simp only[Rep]at h
 .subst h;exact h1
 .obtain⟨_,rfl⟩:=h;rfl
 .obtain⟨_,_,rfl,_⟩:=h;rfl
 .obtain⟨_,_,rfl,_⟩:=h;rfl
 .obtain⟨_,_,_,_,_,_,_,_,rfl,_⟩:=h;rfl
 .obtain⟨_,_,_,_,_,rfl⟩:=h;rfl
 .obtain⟨_,rfl⟩:=h;rfl
 .obtain⟨_,_,rfl,_⟩:=h;rfl
 .obtain⟨_,rfl,_⟩:=h;rfl
def Rep.cells{G}{a}{x}(h:Rep G a x)(h1:a.storable=true):A0t G a.cells x.cells.toList/\∀v∈x.cells.toList,v.oneCell'=true:=by
 by_cases ha:∃cs,a=.agg cs
 .obtain⟨cs,rfl⟩:=ha;simp only[Rep]at h;obtain⟨ys,rfl,h2,h3⟩:=h;exact⟨by simpa[AV.cells,Value.cells]using h2,by simpa[Value.cells]using h3⟩
 by_cases hv:∃ys,a=.val (.agg ys)
 .obtain⟨ys,rfl⟩:=hv;simp only[Rep]at h;subst h;simp only[AV.storable,Z0p]at h1;refine⟨?_,by simpa[Value.cells]using h1⟩;show A0t G (ys.toList.map .val) ys.toList;generalize ys.toList=l;induction l with
  |nil=>simp[A0t]
  |cons y l ih=>exact⟨y,l,rfl,rfl,ih⟩
 .have b:a.one=true:=by
   cases a with
   |val v=>cases v<;>simp_all [AV.storable,AV.one]
   |_=>simp_all [AV.storable,AV.one]
  have hx:=h.one b;have hc:x.cells=#[x]:=by cases x<;>simp_all [Value.cells,Value.oneCell']
  have c:a.cells=[a]:=by
   cases a with
   |val v=>cases v<;>simp_all [AV.cells]
   |_=>simp_all [AV.cells]
  rw[hc,c];exact⟨by simp[A0t,h],by simpa using hx⟩
def A0d(cs:List AV)(off:Nat)(news:List AV):List AV:=cs.take off++news++cs.drop (off+news.length)
def Inv.setBox{C}{G}{M}{w}(hi:Inv C G M w){k}{cs cs'}{t:TypeId}(hk:M[k]?=some (.cells t cs)){vs}
 (hh:w.heap[G.blk k]?=some (.cells vs t (0,0))){vs'}(hr:A0t G cs' vs'.toList)(h1:∀v∈vs'.toList,v.oneCell'=true):
 Inv C G (M.set k (.cells t cs')) (w.setRow (G.blk k) vs'):=by
 obtain⟨_,_,_,_,c,a⟩:=hi.obj k _ hk
 refine hi.step k (G.blk k) hk (.inl rfl) (.refl _) rfl (λ_=>rfl) (λ_ _=>⟨rfl,rfl⟩) (λb i v h=>.inl h) (λ_=>rfl) (λb _ hne=>Z3H _ _ _ _ hne) (λi v h=>by rw[c i]at h;simp at h) (λo h=>by rw[a]at h;simp at h) ⟨vs',Z4l w _ vs vs' t _ hh,hr,h1,c,a⟩ (λb hb=>.inl hb)
def Ext.setRow(w:World)(g:Nat)(c:Array Value):Ext w (w.setRow g c):=⟨rfl,rfl,rfl,by simp[World.setRow]⟩
def C5X{C}{G}{M}{w}(hi:Inv C G M w){b off}{x}(hr:Rep G (.ptr b off) x){t:TypeId}{cs}{v}{y}{bt:TypeId}(hv:Rep G v y)
 (hb:M[b]?=some (.cells bt cs))(hs:v.storable=true)(i:A1u C.P t=some v.cells.length)(k:off+v.cells.length<=cs.length):
 ∃w',(Instr.storeAt t x y).run C.P w=.ok () w'/\Inv C G (M.set b (.cells bt (A0d cs off v.cells))) w'/\Ext w w':=by
 simp only[Rep]at hr
 obtain⟨j,rfl⟩:=hr
 obtain⟨vs,hh,h1,h2,h3,h4⟩:=hi.obj b _ hb
 obtain⟨h,c⟩:=hv.cells hs
 have g:=h1.length
 have a:=h.length
 have f:=Z3v C.P (G.blk b) off bt y.cells.toList 0 vs w hh (by simp at g a|-;omega) c
 simp only[Z0Z]at f
 refine⟨_,?_,hi.setBox hb hh (vs':=(vs.toList.take off++y.cells.toList++vs.toList.drop (off+y.cells.toList.length)).toArray) ?_ ?_,Ext.setRow _ _ _⟩
 .have d:y.cells.size=v.cells.length:=by simpa using a
  simp only[Instr.storeAt,Instr.sureAddr,storeVar,Z0E,Z0K,Z0u,A2k i,d,ne_eq,Z3W,Z1i,f]
 .simp only[A0d];have e:y.cells.toList.length=v.cells.length:=a;rw[e];exact((h1.take off).append h).append (h1.drop _)
 .intro u hu;simp only[Z0S]at hu;rcases hu with(hu|hu)|hu
  .exact h2 u (Z1k hu)
  .exact c u hu
  .exact h2 u (Z1m hu)
def A0t.of_get{G}:∀{cs:List AV} {ys:List Value},cs.length=ys.length->(∀(i:Nat) (c:AV) (y:Value),cs[i]?=some c->ys[i]?=some y->Rep G c y)->A0t G cs ys
 |[],[],_,_=>by simp[A0t]
 |[],_::_,h,_=>by simp at h
 |_::_,[],h,_=>by simp at h
 |c::cs,y::ys,h,k=>by simp only[A0t];exact⟨y,ys,rfl,k 0 c y rfl rfl,A0t.of_get (by simpa using h) (λi c y h1 h2=>k (i+1) c y (by simpa using h1) (by simpa using h2))⟩
def A0t.get2{G:A0o}{cs:List AV}{ys:List Value}(h:A0t G cs ys){i:Nat}{c:AV}{y:Value}(h1:cs[i]?=some c)(h2:ys[i]?=some y):Rep G c y:=by obtain⟨z,hz,hr⟩:=h.get h1;rw[h2]at hz;simp only[Z0b]at hz;subst hz;exact hr
def B5M{cs news}{off}(h:off+news.length<=cs.length):(A0d cs off news).length=cs.length:=by simp only[A0d,Z0t,Z0D,Z1c];omega
def A9z{α:Type}{cs news:List α}{off i:Nat}(h:off+news.length<=cs.length):(cs.take off++news++cs.drop (off+news.length))[i]?=if off<=i/\i<off+news.length then news[i-off]? else cs[i]?:=by
 by_cases h1:i<off
 .rw[Z0d (by omega),Z0F,Z0i (by rw[Z0D];omega),Z0P,Z0e h1]
 .by_cases h2:i<off+news.length
  .rw[Z0e (by omega),Z0F,Z1y (by rw[Z0D];omega),Z0i (by rw[Z0D];omega),Z0D];congr 1;omega
  .rw[Z0d (by omega),Z1y (by rw[Z0t,Z0D];omega),Z1e];congr 1;rw[Z0t,Z0D];omega
def A0Y(sz g off:Nat)(hist:List (Nat×Nat)):List (Nat×Nat):=hist.filter λx=>x.1==g||decide (x.2*sz<=off)
def B1p{C:Ctx}{G:A0o}{M:Mem}{w:World}(hi:Inv C G M w){f g off:Nat}{x:Value}(hr:Rep G (.vptr f g off) x){ty:TypeId}{sz g' n:Nat}{cs:List AV}{j:List (Nat×Nat)}{news:List AV}{ys:List Value}(a9:A0t G news ys)(a8:∀u∈ys,u.oneCell'=true)
 (hM:M[f]?=some (.vec ty sz cs g' j))(hn:j.lookup g=some n)(ae:off+news.length<=n*sz):
 ∃a w',x=.pointer (some a)/\(storeCells a ys).run C.P w=.ok () w'/\Inv C G (M.set f (.vec ty sz (A0d cs off news) g' (A0Y sz g off j))) w'/\Ext w w':=by
 simp only[Rep]at hr
 obtain⟨hf,hg,a,cap,hd,rfl⟩:=hr
 have d:=a9.length
 obtain⟨p0,p2,p3⟩:=hi.obj f _ hM
 have q:=A3v hn
 obtain⟨_,ah,b,o,af,vs,q1,q2,q3,q4,q5,q6,q7,q8,q9⟩:=p2 g n q
 have ag:=q1
 rw[hd]at q1
 simp only[Z0h,Z0b]at q1
 obtain⟨rfl,rfl⟩:=q1
 have ad:n*sz<=cap*sz:=Z1f _ q2
 have a0:=Z3v C.P b (o+off) ty ys 0 vs w q4 (by rw[d];omega) a8
 simp only[Z0Z,d]at a0
 have m:=Z4l w b vs (vs.toList.take (o+off)++ys++vs.toList.drop (o+off+news.length)).toArray ty (0,0) q4
 generalize s:(vs.toList.take (o+off)++ys++vs.toList.drop (o+off+news.length))=nl at a0 m
 have ab:nl.length=vs.size:=by rw[<-s];simp only[Z0t,Z0D,Z1c,Z1z,d];omega
 have a5:∀i,nl[i]?=if o+off<=i/\i<o+off+news.length then ys[i-(o+off)]? else vs.toList[i]?:=by intro i;have:=A9z (cs:=vs.toList) (news:=ys) (off:=o+off) (i:=i) (by rw[d];simp;omega);rw[d]at this;rw[<-s];exact this
 have a6:A2N G f (.vec ty sz cs g' j) b:=⟨g,n,_,q,by rw[hd],rfl⟩
 have aa:=hi.step (w':=w.setRow b nl.toArray) (o':=.vec ty sz (A0d cs off news) g' (A0Y sz g off j)) f b hM (.inl a6) (.refl _) rfl (λ_=>rfl) (λ_ _=>⟨rfl,rfl⟩) (λ_ _ _ h=>.inl h) (λ_=>rfl)
  (λb' _ hne=>Z3H _ _ _ _ hne) (λi v h=>by rw[q8 i]at h;simp at h) (λo h=>by rw[q9]at h;simp at h)
  ⟨p0,λh' n' hm=>?_,λh1 n1 h2 n2 a1 a2 c1 c2 m1 m2=>p3 h1 n1 h2 n2 a1 a2 c1 c2 ((Z1p.1 m1).1) ((Z1p.1 m2).1)⟩
  (λb' ⟨h1,n1,a1,m1,e1,e2⟩=>.inr ⟨h1,n1,a1,(Z1p.1 m1).1,e1,e2⟩)
 .exact⟨_,_,rfl,a0,aa,Ext.setRow _ _ _⟩
 .have a7:=(Z1p.1 hm).1;have t:h'=g\/n'*sz<=off:=by simpa using(Z1p.1 hm).2
  obtain⟨r0,r1,b',o',p,vs',s1,s2,s3,s4,s5,s6,s7,s8,s9⟩:=p2 h' n' a7;have r:(A0d cs off news).length=cs.length:=B5M (by omega);refine⟨r0,by rw[r];exact r1,?_⟩;have ac:n'*sz<=p*sz:=Z1f _ s2;by_cases e:b'=b
  .subst e;have eo:(⟨b',o',none⟩:Addr)=⟨b',o,none⟩:=p3 h' n' g n _ _ _ _ a7 q s1 hd rfl;simp only[Z3y,Z2u,Z1D]at eo;subst eo;rw[q4]at s4;simp only[Z0b,Obj.cells.injEq,Z1D]at s4;subst s4;have y:=s6.length;simp only[Z0D,Z1c,Z1z]at y;have gl:∀i,i<n'*sz->((nl.drop o').take (n'*sz))[i]?=if off<=i/\i<off+news.length then ys[i-off]? else((vs.toList.drop o').take (n'*sz))[i]?:=by
    intro i k;rw[Z0P,Z0e k,Z1e,a5,Z0P,Z0e k,Z1e];by_cases hc:off<=i/\i<off+news.length
    .rw[Z0e (by omega),Z0e hc];congr 1;omega
    .rw[Z0d (by omega),Z0d hc]
   refine⟨b',o',p,nl.toArray,s1,s2,s3,m,by simp only[Z2D];omega,?_,?_,s8,s9⟩
   .refine A0t.of_get ?_ ?_
    .simp only[Z0D,Z1c,r];omega
    .intro i c z hc hz;(have k:i<n'*sz:=by have:=A0S hz;simp only[Z0D]at this;omega);have a3:=gl i k;rw[show(nl.toArray.toList:List Value)=nl from rfl]at hz;rw[a3]at hz;rw[Z0P,Z0e k]at hc;simp only[A0d]at hc;rw[A9z (by omega)]at hc;by_cases hcc:off<=i/\i<off+news.length
     .rw[Z0e hcc]at hz hc;exact a9.get2 hc hz
     .rw[Z0d hcc]at hz hc;exact s6.get2 (by rw[Z0P,Z0e k];exact hc) hz
   .intro u hu;obtain⟨i,l⟩:=Z4r.1 hu;(have k:i<n'*sz:=by have:=A0S l;simp only[Z0D]at this;omega);have a3:=gl i k;rw[show(nl.toArray.toList:List Value)=nl from rfl,a3]at l;by_cases hcc:off<=i/\i<off+news.length
    .rw[Z0e hcc]at l;exact a8 u (Z2O l)
    .rw[Z0d hcc]at l;exact s7 u (Z2O l)
  .have a4:n'*sz<=off:=by
    rcases t with h|h
    .subst h;rw[hd]at s1;simp only[Z0h,Z0b,Z3y]at s1;exact absurd s1.1.1.symm e
    .exact h
   refine⟨b',o',p,vs',s1,s2,s3,by rw[Z3H _ _ _ _ e];exact s4,s5,?_,s7,s8,s9⟩;(have:(A0d cs off news).take (n'*sz)=cs.take (n'*sz):=by simp only[A0d];rw[Z0F,Z1T (by rw[Z0D];omega),Z2v,Z1A a4]);rw[this];exact s6
def C4c{C}{G}{M}{w}(hi:Inv C G M w){f g off}{x}(hr:Rep G (.vptr f g off) x){t:TypeId}{ty:TypeId}{sz g' n}{cs}{hist}{v}{y}(hv:Rep G v y)
 (hM:M[f]?=some (.vec ty sz cs g' hist))(hn:hist.lookup g=some n)(hs:v.storable=true)(j:A1u C.P t=some v.cells.length)(c:off+v.cells.length<=n*sz):
 ∃w',(Instr.storeAt t x y).run C.P w=.ok () w'/\Inv C G (M.set f (.vec ty sz (A0d cs off v.cells) g' (A0Y sz g off hist))) w'/\Ext w w':=by
 obtain⟨e,h⟩:=hv.cells hs
 obtain⟨a,w',rfl,i,h2,h3⟩:=B1p hi hr e h hM hn c
 refine⟨w',?_,h2,h3⟩
 have b:=e.length
 have d:y.cells.size=v.cells.length:=by simpa using b
 simp only[Instr.storeAt,Instr.sureAddr,storeVar,Z0E,Z0K,Z0u,A2k j,d,ne_eq,Z3W,Z1i,i]
def A0o.fix(G:A0o)(nb:Nat)(vs:List Value):A0o:={G with st:=λb i=>if b=nb then vs[i]? else G.st b i}
def Inv.st_lt{C}{G}{M}{w}(hi:Inv C G M w){b i}{v}(h:G.st b i=some v):b<w.heap.size:=Z2j w ⟨b,i,none⟩ (hi.st b i v h)
def Inv.keep_lt{C}{G}{M}{w}(hi:Inv C G M w){b}{o}(h:G.keep b=some o):b<w.heap.size:=(Z2a.1 (hi.keep b o h)).1
def A0o.le_fix{C}{G}{M}{w}(hi:Inv C G M w)(vs:List Value):G.le (G.fix w.heap.size vs):=⟨Z0n _,λ_ _=>rfl,λb i v h=>by have:=hi.st_lt h;simp only[A0o.fix];rw[Z0d (by omega)];exact h,λ_ _ h=>h,λ_ _=>Z0n _,λ_ _ _ _=>rfl⟩
def A3X(w:World)(o:Obj)(b:Nat)(h:b<w.heap.size):(w.alloc o).heap[b]?=w.heap[b]?:=by show(w.heap.push o)[b]?=_;rw[Array.getElem?_push,Z0d (by omega)]
def B9R(w:World)(o:Obj)(b i:Nat)(h:b<w.heap.size):(w.alloc o).cell? ⟨b,i,none⟩=w.cell? ⟨b,i,none⟩:=by have:=A3X w o b h;simp[World.cell?,this]
def Inv.fix{C}{G}{M}{w}(hi:Inv C G M w)(c:Array Value)(t:TypeId)(vs:List Value)(m:∀(i:Nat) (v:Value),vs[i]?=some v->c[i]?=some v):Inv C (G.fix w.heap.size vs) M (w.alloc (.cells c t)):=by
 have d:=A0o.le_fix hi vs
 have l:∀b i v,(G.fix w.heap.size vs).st b i=some v->(b=w.heap.size/\vs[i]?=some v)\/(b<w.heap.size/\G.st b i=some v):=by
  intro b i v h;simp only[A0o.fix]at h;by_cases e:b=w.heap.size
  .rw[Z0e e]at h;exact .inl ⟨e,h⟩
  .rw[Z0d e]at h;exact .inr ⟨hi.st_lt h,h⟩
 have a:=λb (h:b<w.heap.size)=>A3X w (.cells c t) b h
 refine⟨hi.n,?_,?_,?_,?_,λg=>Rep.mono d _ _ (hi.gl g),hi.tab_le d⟩
 .intro b i v hv;rcases l b i v hv with⟨rfl,h⟩|⟨f,h⟩
  .have:=Z2h w (.cells c t);rw[Z2Q _ _ _ _ _ _ this];exact m i v h
  .rw[B9R _ _ _ _ f];exact hi.st b i v h
 .intro b o ho;rw[a b (hi.keep_lt ho)];exact hi.keep b o ho
 .intro k o hk;have ho:=hi.obj k o hk;refine ho.keeps d (by rw[hi.n];exact A0S hk) rfl ⟨rfl,rfl⟩ (λb hb i v hv=>?_) (λ_=>rfl) (λb hb=>a b (ho.owns_lt hb));have f:=ho.owns_lt hb;simp only[A0o.fix]at hv;rwa[Z0d (by omega)]at hv
 .intro i j x y b hx hy ox oy;have ob:∀k x b,A2N (G.fix w.heap.size vs) k x b<->A2N G k x b:=λk x b=>by cases x<;>exact Iff.rfl
  rw[ob]at ox oy;exact hi.apart i j x y b hx hy ox oy
def Ext.alloc(w:World)(o:Obj):Ext w (w.alloc o):=⟨rfl,rfl,rfl,by simp⟩
def Ext.drew(w:World):Ext w w.drew:=⟨rfl,rfl,rfl,Z0n _⟩
def A0N.fix{C}{G}{M}{w}(hi:Inv C G M w){cs}{vs}(hr:A0t G cs vs)(h1:∀v∈vs,v.oneCell'=true):A0N (G.fix w.heap.size vs) cs w.heap.size 0:=A0N.mk (A0t.mono (A0o.le_fix hi vs) _ _ hr) h1 (λj v hv=>by simp only[A0o.fix,Z0T,Z0N];exact hv)
def Inv.newBox{C}{G}{M}{w}(hi:Inv C G M w){cs}{vs}(t:TypeId)(hr:A0t G cs vs.toList)(h1:∀v∈vs.toList,v.oneCell'=true):∃G',Inv C G' (M++[.cells t cs]) (w.alloc (.cells vs t))/\G.le G'/\G'.blk M.length=w.heap.size/\M.length<G'.n:=by
 have hm:=hi.more w.heap.size (λ_=>(none,0)) 0
 have hk:(M++[A0m.gone])[M.length]?=some .gone:=by simp
 have hb:(G.more w.heap.size (λ_=>(none,0)) 0).blk M.length=w.heap.size:=by simp[A0o.more,hi.n]
 have c:∀i,(G.more w.heap.size (λ_=>(none,0)) 0).st w.heap.size i=none:=by
  intro i;cases h:G.st w.heap.size i with
  |none=>exact h
  |some v=>have:=hi.st_lt h;omega
 have a:(G.more w.heap.size (λ_=>(none,0)) 0).keep w.heap.size=none:=by
  cases h:G.keep w.heap.size with
  |none=>exact h
  |some v=>have:=hi.keep_lt h;omega
 have:=hm.step (w':=w.alloc (.cells vs t)) (o':=.cells t cs) M.length w.heap.size hk (.inr (Z0n _)) (.refl _) rfl (λ_=>rfl) (λ_ _=>⟨rfl,rfl⟩) (λ_ _ _ h=>.inl h) (λ_=>rfl)
  (λb hlt _=>A3X w _ b hlt) (λi v h=>by rw[c]at h;simp at h) (λo h=>by rw[a]at h;simp at h)
  ⟨vs,by rw[hb];exact Z2h w _,A0t.mono (G.le_more _ _ _) _ _ hr,h1,by rw[hb];exact c,by rw[hb];exact a⟩ (λb h=>.inl (by simp only[A2N,hb]at h;exact h))
 refine⟨_,?_,G.le_more _ _ _,hb,by simp[A0o.more,hi.n]⟩
 simpa using this
def Inv.newObj{C}{G}{M}{w}(hi:Inv C G M w)(o:Obj)(ao:A0m)(h:Nat->Option Addr×Nat)(t:Nat)
 (e:∀G',G.le G'->G'.blk M.length=w.heap.size->G'.hdr M.length=h->G'.top M.length=t->(∀i,G'.st w.heap.size i=none)->G'.keep w.heap.size=none->A4y G' (w.alloc o) M.length ao)
 (d:∀G' b,G'.blk M.length=w.heap.size->G'.hdr M.length=h->A2N G' M.length ao b->b=w.heap.size):
 ∃G',Inv C G' (M++[ao]) (w.alloc o)/\G.le G'/\G'.blk M.length=w.heap.size/\M.length<G'.n/\G'.hdr M.length=h/\G'.top M.length=t:=by
 have hm:=hi.more w.heap.size h t
 have hk:(M++[A0m.gone])[M.length]?=some .gone:=by simp
 have hb:(G.more w.heap.size h t).blk M.length=w.heap.size:=by simp[A0o.more,hi.n]
 have hh:(G.more w.heap.size h t).hdr M.length=h:=by simp[A0o.more,hi.n]
 have ht:(G.more w.heap.size h t).top M.length=t:=by simp[A0o.more,hi.n]
 have c:∀i,(G.more w.heap.size h t).st w.heap.size i=none:=by
  intro i;cases h:G.st w.heap.size i with
  |none=>exact h
  |some v=>have:=hi.st_lt h;omega
 have a:(G.more w.heap.size h t).keep w.heap.size=none:=by
  cases h:G.keep w.heap.size with
  |none=>exact h
  |some v=>have:=hi.keep_lt h;omega
 have:=hm.step (w':=w.alloc o) (o':=ao) M.length w.heap.size hk (.inr (Z0n _)) (.refl _) rfl (λ_=>rfl) (λ_ _=>⟨rfl,rfl⟩) (λ_ _ _ h=>.inl h) (λ_=>rfl)
  (λb hlt _=>A3X w _ b hlt) (λi v h=>by rw[c]at h;simp at h) (λo h=>by rw[a]at h;simp at h)
  (e _ (G.le_more _ _ _) hb hh ht c a) (λb h=>.inl (d _ b hb hh h))
 refine⟨_,?_,G.le_more _ _ _,hb,by simp[A0o.more,hi.n],hh,ht⟩
 simpa using this
def B1t:AV->Option (List (List AV)×Own)
 |.val (.slice none 0 0)=>some ([],.full)
 |.list _ rows own=>some (rows,own)
 |_=>none
def B0X(sz:Nat):AV->Prop
 |.list s _ _=>s=sz
 |_=>True
def B9A{C}{G}{M}{w}(hi:Inv C G M w){v}{x}{sz}{rows}{own}(hr:Rep G v x)(h:B1t v=some (rows,own))(hs:B0X sz v):∃base cap,x=.slice base rows.length cap/\rows.length<=cap/\cap<=maxLen/\(match base with|none=>rows=[]/\cap=0|some a=>(rows≠[]->a.spot=none)/\A0C G sz rows a.block a.off)/\A5I G own rows.length base cap:=by
 unfold B1t at h
 split at h
 .simp only[Z0b,Z0h]at h;obtain⟨rfl,rfl⟩:=h;simp only[Rep]at hr;subst hr;exact⟨none,0,rfl,Z0n _,by simp[maxLen],⟨rfl,rfl⟩,rfl⟩
 .simp only[Z0b,Z0h]at h;obtain⟨rfl,rfl⟩:=h;simp only[B0X]at hs;subst hs;simp only[Rep]at hr;exact hr
 .simp at h
def B4k{C:Ctx}{G:A0o}{M:Mem}{w:World}(hi:Inv C G M w){base:Option Addr}{sz cap:Nat}{rows:List (List AV)}
 (h:match base with|none=>rows=[]/\cap=0|some a=>(rows≠[]->a.spot=none)/\A0C G sz rows a.block a.off):
 ∃vs:List Value,A0t G rows.flatten vs/\vs.length=rows.length*sz/\(∀v∈vs,v.oneCell'=true)/\(∀r∈rows,r.length=sz)/\∀w',w'.heap=w.heap->(Builtin.firstCells sz rows.length (.slice base rows.length cap)).run C.P w'=.ok vs.toArray w':=by
 cases base with
 |none=>
  obtain⟨rfl,_⟩:=h
  exact⟨[],by simp[A0t],by simp,by simp,by simp,λw' _=>by simp[Builtin.firstCells]⟩
 |some a=>
  obtain⟨b,h⟩:=h
  obtain⟨hm,hl⟩:=A0C.flat h
  obtain⟨vs,h1,h2,h3,h4⟩:=hm.vals
  refine⟨vs,h1,by omega,h3,h.sizes,λw' hw=>?_⟩
  refine Z2F (P:=C.P) w' sz rows.length a rows.length cap vs (by omega) (λj v hv=>?_)
  have c:rows≠[]:=by intro e;subst e;have:=A0S hv;simp at h2;subst h2;simp at this
  have b:=b c
  have ea:a=⟨a.block,a.off,none⟩:=by cases a;simp_all
  rw[ea,Z1t]
  have:=hi.st _ _ _ (h4 j v hv)
  simpa[World.cell?,hw]using this
end Go.Abs
