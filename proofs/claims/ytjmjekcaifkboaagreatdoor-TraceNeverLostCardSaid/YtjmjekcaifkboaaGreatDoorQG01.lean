/- The texts Zal, AbsA, AbsB, AbsC, AbsC2, AbsD, AbsE, AbsF, AbsF2, AbsG, AbsH, AbsI. -/
import Derived.WalkKit
set_option linter.all false
section
def Z0a:=@List.getElem?_eq_some_iff
def Z0b:=@Option.some.injEq
def Z0c:=@if_pos
def Z0d:=@if_neg
def Z0e:=@List.take_of_length_le
def Z0f:=@List.getElem?_set_ne
def Z0g:=@List.getElem?_eq_getElem
def Z0h:=@Bool.and_eq_true
def Z0i:=@Prod.mk.injEq
def Z0j:=@Nat.le_refl
def Z0k:=@List.length_append
def Z0l:=@Option.map_eq_some_iff
def Z0m:=@List.drop_eq_getElem_cons
def Z0n:=@decide_eq_true_eq
def Z0o:=@List.getElem?_append_left
def Z0p:=@List.mem_cons
def Z0q:=@Go.run_underlying
def Z0r:=@List.length_cons
def Z0s:=@List.getElem_mem
def Z0t:=@List.length_take
def Z0u:=@Go.Result.andThen_ok
def Z0v:=@List.drop_eq_nil_of_le
def Z0w:=@List.eq_nil_of_length_eq_zero
def Z0x:=@List.map_cons
def Z0y:=@List.flatMap_cons
def Z0z:=@List.take_add_one
def Z0A:=@decide_eq_true
def Z0B:=@List.getElem?_take
def Z0C:=@List.mem_map
def Z0D:=@List.all_eq_true
def Z0E:=@Go.Sem.run_bind
def Z0F:=@List.append_assoc
def Z0G:=@List.length_drop
def Z0H:=@List.getElem?_drop
def Z0I:=@decide_eq_false
def Z0J:=@Nat.le_trans
def Z0K:=@Bool.false_and
def Z0L:=@List.mem_singleton
def Z0M:=@ByteArray.size_append
def Z0N:=@List.mem_append
def Z0O:=@Go.Sem.run_pure
def Z0P:=@Nat.zero_add
def Z0Q:=@List.cons_append
def Z0R:=@Nat.add_mul
def Z0S:=@Nat.lt_of_lt_of_le
def Z0T:=@Option.toList_some
def Z0U:=@Bool.true_and
def Z0V:=@Nat.mul_le_mul_right
def Z0W:=@List.length_map
def Z0X:=@Array.length_toList
def Z0Y:=@Nat.add_zero
def Z0Z:=@List.getElem?_append
def Z1a:=@Option.some.inj
def Z1b:=@List.append_nil
def Z1c:=@List.pairwise_cons
def Z1d:=@List.flatten_cons
def Z1e:=@if_true
def Z1f:=@List.map_append
def Z1g:=@Array.getElem?_eq_getElem
def Z1h:=@List.take_succ_cons
def Z1i:=@List.getElem?_map
def Z1j:=@List.take_append_drop
def Z1k:=@Go.Addr.add_lit
def Z1l:=@List.getD_eq_getElem?_getD
def Z1m:=@Option.getD_some
def Z1n:=@List.flatMap_append
def Z1o:=@List.mem_filter
def Z1p:=@List.length_nil
def Z1q:=@List.length_filter_le
def Z1r:=@List.size_toArray
def Z1s:=@List.take_succ_eq_append_getElem
def Z1t:=@List.getElem?_append_right
def Z1u:=@List.drop_of_length_le
def Z1v:=@List.mem_cons_of_mem
def Z1w:=@List.mem_of_mem_drop
def Z1x:=@List.mem_of_mem_take
def Z1y:=@List.nil_append
def Z1z:=@List.drop_zero
def Z1A:=@and_true
def Z1B:=@List.nodup_cons
def Z1C:=@of_decide_eq_true
def Z1D:=@List.take_append_of_le_length
def Z1E:=@Go.Calls.mono
def Z1F:=@Nat.min_eq_left
def Z1G:=@List.pairwise_iff_getElem
def Z1H:=@List.not_mem_nil
def Z1I:=@Bool.false_eq_true
def Z1J:=@List.getElem?_eq_none
def Z1K:=@List.length_pos_iff
def Z1L:=@Array.getElem?_eq_some_iff
def Z1M:=@List.mem_flatMap
def Z1N:=@List.map_nil
def Z1O:=@Array.ext'
def Z1P:=@List.getElem_cons_succ
def Z1Q:=@List.length_set
def Z1R:=@beq_eq_false_iff_ne
def Z1S:=@Nat.zero_mul
def Z1T:=@Option.map_some
def Z1U:=@List.foldl_cons
def Z1V:=@Bool.or_eq_true
def Z1W:=@List.ext_getElem?
def Z1X:=@List.foldl_append
def Z1Y:=@List.take_take
def Z1Z:=@Go.heap_alloc_new
def Z2a:=@List.filter_append
def Z2b:=@List.drop_drop
def Z2c:=@List.take_zero
def Z2d:=@List.mem_range
def Z2e:=@List.cons.injEq
def Z2f:=@if_false
def Z2g:=@Option.bind_some
def Z2h:=@beq_self_eq_true
def Z2i:=@Nat.le_mul_of_pos_right
def Z2j:=@Option.bind_eq_some_iff
def Z2k:=@Bool.eq_iff_iff
def Z2l:=@Go.run_firstCells_some
def Z2m:=@List.replicate_succ
def Z2n:=@List.map_congr_left
def Z2o:=@Go.setRow_other
def Z2p:=@Nat.le_of_eq
def Z2q:=@List.set_set
def Z2r:=@List.set_eq_take_append_cons_drop
def Z2s:=@List.filter_cons
def Z2t:=@Nat.eq_of_beq_eq_true
def Z2u:=@eq_true
def Z2v:=@Array.getElem?_toList
def Z2w:=@Bool.and_left_comm
def Z2x:=@List.mem_or_eq_of_mem_set
def Z2y:=@List.eraseIdx_eq_take_drop_succ
def Z2z:=@List.mem_iff_getElem
def Z2A:=@List.mem_append_left
def Z2B:=@Go.run_storeCells_at
def Z2C:=@Bool.not_eq_true'
def Z2D:=@List.nodup_append
def Z2E:=@List.pairwise_map
def Z2F:=@Nat.add_assoc
def Z2G:=@Bool.false_or
def Z2H:=@Bool.and_self
def Z2I:=@Go.World.block_lt_of_cell?
def Z2J:=@true_and
def Z2K:=@List.drop_take
def Z2L:=@Go.setRow_heap
def Z2M:=@List.getElem?_set_self
def Z2N:=@List.filter_eq_nil_iff
def Z2O:=@List.getElem_cons_zero
def Z2P:=@Go.grownCap_le_maxLen
def Z2Q:=@List.all_cons
def Z2R:=@or_false
def Z2S:=@Go.DataW.trod_lt
def Z2T:=@List.getElem?_set
def Z2U:=@Go.cell_of_row
def Z2V:=@Bool.and_false
def Z2W:=@Bool.and_assoc
def Z2X:=@Go.Value.pointer.injEq
def Z2Y:=@List.filter_cons_of_pos
def Z2Z:=@List.any_cons
def Z3a:=@Bool.and_comm
def Z3b:=@Go.World.var?_cell
def Z3c:=@not_true_eq_false
def Z3d:=@List.eq_nil_or_concat
def Z3e:=@List.mem_append_right
def Z3f:=@List.Perm.append_left
def Z3g:=@List.any_eq_true
def Z3h:=@List.take_length
def Z3i:=@List.pairwise_append
def Z3j:=@Bool.not_true
def Z3k:=@Bool.or_false
def Z3l:=@List.exists_cons_of_ne_nil
def Z3m:=@List.map_take
def Z3n:=@List.filter_sublist
def Z3o:=@Classical.byContradiction
def Z3p:=@List.mem_cons_self
def Z3q:=@List.mem_replicate
def Z3r:=@Nat.succ_mul
def Z3s:=@Option.isSome_iff_exists
def Z3t:=@beq_iff_eq
def Z3u:=@List.mapM_cons
def Z3v:=@Bool.not_false
def Z3w:=@Option.none_or
def Z3x:=@Int.not_lt
def Z3y:=@List.getElem?_cons_zero
def Z3z:=@List.not_all_eq_any_not
def Z3A:=@List.getLast?_singleton
def Z3B:=@List.filter_cons_of_neg
def Z3C:=@Array.size_append
def Z3D:=@Bool.eq_false_iff
def Z3E:=@Int.toNat_natCast
def Z3F:=@Go.grownCap_ge
def Z3G:=@Nat.mul_one
def Z3H:=@Nat.zero_le
def Z3I:=@decide_true
def Z3J:=@Go.Addr.mk.injEq
def Z3K:=@List.mem_flatten
def Z3L:=@Array.toList_map
def Z3M:=@List.getElem_map
def Z3N:=@eq_false
def Z3O:=@List.take_append
def Z3P:=@List.set_getElem_self
def Z3Q:=@List.set_append_right
def Z3R:=@List.perm_append_comm
def Z3S:=@List.mem_of_getElem?
def Z3T:=@Go.run_newObj
def Z3U:=@getElem!_pos
def Z3V:=@Bool.or_eq_false_iff
def Z3W:=@List.find?_cons
def Z3X:=@List.length_flatten
def Z3Y:=@List.take_set_of_le
def Z3Z:=@List.getElem_of_mem
def Z4a:=@List.drop_succ_cons
def Z4b:=@Go.size_zeroCells
def Z4c:=@Array.getElem?_setIfInBounds
def Z4d:=@List.dropLast_concat_getLast
def Z4e:=@Go.run_loadCells_list
def Z4f:=@List.set_cons_zero
def Z4g:=@List.set_cons_succ
def Z4h:=@Array.getD_eq_getD_getElem?
def Z4i:=@Array.ext_getElem?
def Z4j:=@Array.getElem?_append_left
def Z4k:=@Int.fdiv_eq_ediv_of_nonneg
def Z4l:=@not_false_eq_true
def Z4m:=@Function.comp_def
def Z4n:=@List.Sublist.refl
def Z4o:=@Array.mapM_eq_mapM_toList
def Z4p:=@List.mem_of_find?_eq_some
def Z4q:=@Nat.lt_or_ge
def Z4r:=@List.map_toArray
def Z4s:=@Array.all_toList
def Z4t:=@Nat.le_of_lt
def Z4u:=@List.map_map
def Z4v:=@List.drop_append
def Z4w:=@Nat.sub_self
def Z4x:=@List.flatMap_def
def Z4y:=@List.ext_getElem
def Z4z:=@Nat.add_comm
def Z4A:=@Go.Result.ok.injEq
def Z4B:=@Bool.decide_and
def Z4C:=@Nat.min_def
def Z4D:=@List.take_left
def Z4E:=@Go.wp_mono
def Z4F:=@not_or
def Z4G:=@Option.some_or
def Z4H:=@Array.getElem?_modify
def Z4I:=@List.concat_eq_append
def Z4J:=@List.getElem!_toArray
def Z4K:=@Array.getElem?_mapIdx
def Z4L:=@Nat.mul_le_mul
def Z4M:=@List.eraseIdx_sublist
def Z4N:=@List.sizeOf_lt_of_mem
def Z4O:=@Array.getElem?_append
def Z4P:=@List.map_drop
def Z4Q:=@Nat.sub_zero
def Z4R:=@Bool.true_or
def Z4S:=@decide_false
end
namespace Go.Abs
theorem ZAA{P:Prop}(h:P:=by simp[Op.operands]):P:=h
theorem ZAB{P:Prop}(h:P:=by simp;omega):P:=h
theorem ZAC{P:Prop}(h:P:=by simp[A0A,A1l,putCells,A0e,AV.cells,AV.storable]):P:=h
theorem ZAD{P:Prop}(h:P:=by clear w1 w2;omega):P:=h
theorem ZAE{P:Prop}(h:P:=by simp[Rep]):P:=h
theorem ZAF{P:Prop}(h:P:=by rwa[show k+(j+1)=k+1+j from by omega]):P:=h
theorem ZAG{P:Prop}(h:P:=by rw[c];exact A0d.app none _ _):P:=h
theorem ZAH{P:Prop}(h:P:=by rw[a];exact A0d.app none _ _):P:=h
theorem ZAJ{P:Prop}(h:P:=by simpa using h):P:=h
theorem ZAK{P:Prop}(h:P:=by simp[A0A,A1l,putCells,A0e]):P:=h
theorem ZAL{P:Prop}(h:P:=by rw[hN];exact A0d.app none _ _):P:=h
theorem ZAM{P:Prop}(h:P:=by clear w1 w2 w3;omega):P:=h
theorem ZAN{P:Prop}(h:P:=by simp[Op.operands];exact⟨_,by simpa using List.mem_of_getElem? hq⟩):P:=h
theorem ZAP{P:Prop}(h:P:=by simpa using hj):P:=h
theorem ZAQ{P:Prop}(h:P:=by simp[List.lookup]):P:=h
theorem ZAR{P:Prop}(h:P:=by decide):P:=h
theorem ZAS{P:Prop}(h:P:=by simpa using hi):P:=h
theorem ZAT{P:Prop}(h:P:=by rintro v M' ⟨⟨x,rfl,rfl⟩,rfl⟩;exact⟨rfl,rfl⟩):P:=h
theorem ZAU{P:Prop}(h:P:=by simpa using h2):P:=h
theorem ZAV{P:Prop}(h:P:=by simp[A0q.more,hi.n]):P:=h
theorem ZAW{P:Prop}(h:P:=by rw[A0R Q0 Q0];omega):P:=h
theorem ZAX{P:Prop}(h:P:=by simp[bdd,A1i,C8o,C8a,A2G,B7Z]):P:=h
theorem ZAY{P:Prop}(h:P:=by simp[bdd,A1i,IdD.row]):P:=h
theorem ZAZ{P:Prop}(h:P:=by simp[bdd,A1i,A2v]):P:=h
theorem ZBA{P:Prop}(h:P:=by simp[A0q.grow]):P:=h
theorem ZBB{P:Prop}(h:P:=by have:=hs.new;omega):P:=h
theorem ZBC{P:Prop}(h:P:=by rw[A3Q rfl rfl];simp only[A0W,A0J,A1V,A1X];cases A2b C.P mt M (ρ m) (ρ k) (ρ x)<;>rfl):P:=h
theorem ZBD{P:Prop}(h:P:=by rw[A2d he];exact Z0j _):P:=h
theorem ZBE{P:Prop}(h:P:=by simp[bdd,A1i]):P:=h
theorem ZBF{P:Prop}(h:P:=by simpa using h1):P:=h
theorem ZBG{P:Prop}(h:P:=by simp):P:=h
theorem ZBH{P:Prop}(h:P:=by simp[hq]):P:=h
theorem ZBJ{P:Prop}(h:P:=by rw[e];exact A0d.app none _ _):P:=h
theorem ZBK{P:Prop}(h:P:=by simp only[A0v];exact⟨_,_,rfl,by simp only[Rep],rfl⟩):P:=h
theorem ZBL{P:Prop}(h:P:=by have:=hs.old;omega):P:=h
theorem ZBM{P:Prop}(h:P:=by simp only[bdd,Z1A];exact A2G _ _):P:=h
theorem ZBN{P:Prop}(h:P:=by rw[A0R Q0 Q0]):P:=h
theorem ZBP{P:Prop}(h:P:=by simp[A0A,A1l,putCells,A0e,AV.cells,AV.storable,A2v]):P:=h
theorem ZBQ{P:Prop}(h:P:=by simpa using hv):P:=h
theorem ZBR{P:Prop}(h:P:=by simpa using h3):P:=h
theorem ZBS{P:Prop}(h:P:=by simpa using List.mem_of_getElem? hq):P:=h
theorem ZBT{P:Prop}(h:P:=by rw[f];exact A0d.app none _ _):P:=h
theorem ZBU{P:Prop}(h:P:=by rw[g];exact A0d.app none _ _):P:=h
theorem ZBV{P:Prop}(h:P:=by simp[Op.operands,Call.operands];simpa using hx):P:=h
theorem ZBW{P:Prop}(h:P:=by simp[A1K,A3v,A3Z,h,A3b,B4w]):P:=h
theorem ZBX{P:Prop}(h:P:=by simpa using Arr.nil):P:=h
theorem ZBY{P:Prop}(h:P:=by simp only[builtin,Z0E,h1,Z0u,Z0O]):P:=h
theorem ZBZ{P:Prop}(h:P:=by rw[A0f a1];simp[A0o,A0n,B5v,A0e,AV.storable,AV.cells];exact A9O a1):P:=h
theorem ZCA{P:Prop}(h:P:=by rw[a];simp):P:=h
theorem ZCB{P:Prop}(h:P:=by simp[AV.storable,AV.cells];omega):P:=h
theorem ZCC{P:Prop}(h:P:=by obtain⟨n,hn⟩:=A4t h;obtain⟨x,e,_⟩:=C8J hn;exact⟨x,e⟩):P:=h
theorem ZCD{P:Prop}(h:P:=by obtain⟨n,hn⟩:=A4t h;obtain⟨k,e,_⟩:=A4z hn;exact⟨k,e⟩):P:=h
theorem ZCE{P:Prop}(h:P:=by obtain⟨n,hn⟩:=A4t h;obtain⟨k,e,_⟩:=A7E hn;exact⟨k,e⟩):P:=h
theorem ZCF{P:Prop}(h:P:=by have:=hs.ats;omega):P:=h
theorem ZCG{P:Prop}(h:P:=by simp[Op.operands,Call.operands]):P:=h
theorem ZCH{P:Prop}(h:P:=by simp only[Z0r,Z1p];omega):P:=h
theorem ZCJ{P:Prop}(h:P:=by rw[Z0t];omega):P:=h
theorem ZCK{P:Prop}(h:P:=by rw[aa];exact A0d.app none _ _):P:=h
theorem ZCL{P:Prop}(h:P:=by rw[t];exact A0d.app none _ _):P:=h
theorem ZCM{P:Prop}(h:P:=by rw[j];exact A0d.app none _ _):P:=h
theorem ZCN{P:Prop}(h:P:=by rw[b];exact A0d.app none _ _):P:=h
theorem ZCP{P:Prop}(h:P:=by rw[d];exact A0d.app none _ _):P:=h
theorem ZCQ{P:Prop}(h:P:=by simp only[Z4C];split<;>omega):P:=h
theorem ZCR{P:Prop}(h:P:=by simp;exact⟨p.1,by simpa using hp⟩):P:=h
theorem ZCS{P:Prop}(h:P:=by rw[hN];simp):P:=h
theorem ZCT{P:Prop}(h:P:=by simp[A0v]):P:=h
theorem ZCU{P:Prop}(h:P:=by simp[pOp]<;>rfl):P:=h
theorem ZCV{P:Prop}(h:P:=by rw[A0b p,A0H.row_all];simp):P:=h
theorem ZCW{P:Prop}(h:P:=by simp[Call.operands];simpa using hx):P:=h
theorem ZCX{P:Prop}(h:P:=by clear w0 w1;omega):P:=h
theorem ZCY{P:Prop}(h:P:=by simp[A0a.row_len]):P:=h
theorem ZCZ{P:Prop}(h:P:=by cases n<;>rw[A0Z]):P:=h
theorem ZDA{P:Prop}(h:P:=by simp[Value.oneCell']):P:=h
theorem ZDB{P:Prop}(h:P:=by have:=hF.items;omega):P:=h
theorem ZDC{P:Prop}(h:P:=by simp[A0D]):P:=h
theorem ZDD{P:Prop}(h:P:=by rw[A0a.row]):P:=h
theorem ZDE{P:Prop}(h:P:=by simp[hlt]):P:=h
theorem ZDF{P:Prop}(h:P:=by simpa using hp):P:=h
theorem ZDG{P:Prop}(h:P:=by cases a<;>simp[Op.equalIn,Z0q h]):P:=h
theorem ZDH{P:Prop}(h:P:=by rw[sh];exact hc):P:=h
theorem ZDJ{P:Prop}(h:P:=by simp[Act.eval,Act.put]):P:=h
theorem ZDK{P:Prop}(h:P:=by simpa using hx):P:=h
theorem ZDL{P:Prop}(h:P:=by simpa using hl):P:=h
theorem ZDM{P:Prop}(h:P:=by simp[hop]):P:=h
theorem ZDN{P:Prop}(h:P:=by cases hi'<;>simp):P:=h
theorem ZDP{P:Prop}(h:P:=by rwa[A0y]at hc):P:=h
theorem ZDQ{P:Prop}(h:P:=by rw[c,hb];simp):P:=h
theorem ZDR{P:Prop}(h:P:=by simp[t1]):P:=h
theorem ZDS{P:Prop}(h:P:=by simp[hz]):P:=h
def Q0{P:Prop}(h:P:=by omega):P:=h
def Q1{P:Prop}(h:P:=by simp):P:=h
def Q3{P:Prop}(h:P:=by clear w1;omega):P:=h
def ex{α:Sort _}(a:α):∃b,b=a:=⟨a,rfl⟩
inductive Own where
 |no
 |full
 |fam (f:Nat)
inductive AV where
 |poison
 |val (v:Value)
 |ptr (b off:Nat)
 |cptr (cells:List AV)
 |list (sz:Nat) (rows:List (List AV)) (own:Own)
 /-- a window,from row lo on,of the slice that the array f had at its time g -/
 |vref (f g sz lo len:Nat)
 /-- a pointer to a cell of it -/
 |vptr (f g off:Nat)
 |mapr (b:Nat)
 |func (fn:Fn) (first captured:List AV)
 |iface (t:TypeId) (v:AV)
 |agg (cells:List AV)
 |tuple (vs:List AV)
structure A0q where
 n:Nat
 blk:Nat->Nat
 st:Nat->Nat->Option Value
 keep:Nat->Option Obj
 hdr:Nat->Nat->Option Addr×Nat
 top:Nat->Nat
structure A0q.le (G G':A0q):Prop where
 n:G.n<=G'.n
 blk:∀b,b<G.n->G'.blk b=G.blk b
 st:∀b i v,G.st b i=some v->G'.st b i=some v
 keep:∀b o,G.keep b=some o->G'.keep b=some o
 top:∀f,f<G.n->G.top f<=G'.top f
 hdr:∀f,f<G.n->∀k,k<=G.top f->G'.hdr f k=G.hdr f k
def A0q.le.refl(G:A0q):G.le G:=⟨Z0j _,λ_ _=>rfl,λ_ _ _ h=>h,λ_ _ h=>h,λ_ _=>Z0j _,λ_ _ _ _=>rfl⟩
def A0q.le.trans{A B C:A0q}(h:A.le B)(k:B.le C):A.le C:=
 ⟨Z0J h.n k.n,λb hb=>(k.blk b (Z0S hb h.n)).trans (h.blk b hb),λb i v hv=>k.st b i v (h.st b i v hv),
  λb o ho=>k.keep b o (h.keep b o ho),λf hf=>Z0J (h.top f hf) (k.top f (Z0S hf h.n)),
  λf hf j hj=>(k.hdr f (Z0S hf h.n) j (Z0J hj (h.top f hf))).trans (h.hdr f hf j hj)⟩
def A5v(G:A0q)(own:Own)(len:Nat)(base:Option Addr)(cap:Nat):Prop:=
 match own with
 |.no=>True
 |.full=>cap=len
 |.fam f=>f<G.n/\len<=G.top f/\G.hdr f len=(base,cap)
def A5v.mono{G G'}(h:G.le G'){own}{len}{base}{cap}(k:A5v G own len base cap):A5v G' own len base cap:=by
 cases own with
 |no=>trivial
 |full=>exact k
 |fam f=>obtain⟨h1,h2,h3⟩:=k;exact⟨Z0S h1 h.n,Z0J h2 (h.top f h1),(h.hdr f h1 _ h2).trans h3⟩
mutual
def Rep(G:A0q):AV->Value->Prop
 |.poison,_=>True
 |.val v,x=>x=v
 |.ptr b off,x=>b<G.n/\x=.pointer (some ⟨G.blk b,off,none⟩)
 |.cptr cs,x=>∃b i,x=.pointer (some ⟨b,i,none⟩)/\A0S G cs b i
 |.list sz rows own,x=>∃base cap,x=.slice base rows.length cap/\rows.length<=cap/\cap<=maxLen/\(match base with|none=>rows=[]/\cap=0|some a=>(rows≠[]->a.spot=none)/\A0F G sz rows a.block a.off)/\A5v G own rows.length base cap
 |.vref f g sz lo len,x=>f<G.n/\g<=G.top f/\∃a a' cap,G.hdr f g=(some a,cap)/\a.spot=none/\a'.spot=none/\x=.slice (some a') len (cap-lo)/\lo+len<=cap/\cap<=maxLen/\(lo<cap->a'=⟨a.block,a.off+lo*sz,none⟩)
 |.vptr f g off,x=>f<G.n/\g<=G.top f/\∃a cap,G.hdr f g=(some a,cap)/\x=.pointer (some ⟨a.block,a.off+off,none⟩)
 |.mapr b,x=>b<G.n/\x=.map (some (G.blk b))
 |.func fn f c,x=>∃fs cs:Array Value,x=.func fn fs cs/\A0v G f fs.toList/\A0v G c cs.toList
 |.iface t v,x=>∃y,x=.iface t y/\Rep G v y
 |.agg cs,x=>∃ys:Array Value,x=.agg ys/\A0v G cs ys.toList/\∀y∈ys.toList,y.oneCell'=true
 |.tuple cs,x=>∃ys:Array Value,x=.tuple ys/\A0v G cs ys.toList
def A0v(G:A0q):List AV->List Value->Prop
 |[],ys=>ys=[]
 |c::cs,ys=>∃y ys',ys=y::ys'/\Rep G c y/\A0v G cs ys'
def A0S(G:A0q):List AV->Nat->Nat->Prop
 |[],_,_=>True
 |c::cs,b,i=>(∃v,G.st b i=some v/\v.oneCell'=true/\Rep G c v)/\A0S G cs b (i+1)
def A0F(G:A0q)(sz:Nat):List (List AV)->Nat->Nat->Prop
 |[],_,_=>True
 |r::rs,b,i=>(r.length=sz/\A0S G r b i)/\A0F G sz rs b (i+sz)
end
mutual
def Rep.mono{G G'}(h:G.le G'):∀(a:AV) (x:Value),Rep G a x->Rep G' a x
 |.poison,_,_=>by simp[Rep]
 |.val v,x,k=>by simpa[Rep]using k
 |.ptr b off,x,k=>by simp only[Rep]at k|-;exact⟨Z0S k.1 h.n,by rw[h.blk b k.1];exact k.2⟩
 |.cptr cs,x,k=>by simp only[Rep]at k|-;obtain⟨b,i,hx,hm⟩:=k;exact⟨b,i,hx,A0S.mono h cs b i hm⟩
 |.list sz rows own,x,k=>by
  simp only[Rep]at k|-;obtain⟨base,cap,hx,hl,hm,hb,ho⟩:=k;refine⟨base,cap,hx,hl,hm,?_,ho.mono h⟩;cases base with
  |none=>exact hb
  |some a=>exact⟨hb.1,A0F.mono h sz rows _ _ hb.2⟩
 |.vref f g sz lo len,x,k=>by simp only[Rep]at k|-;obtain⟨h1,h2,a,a',cap,h3,h4⟩:=k;exact⟨Z0S h1 h.n,Z0J h2 (h.top f h1),a,a',cap,(h.hdr f h1 g h2).trans h3,h4⟩
 |.vptr f g off,x,k=>by simp only[Rep]at k|-;obtain⟨h1,h2,a,cap,h3,h4⟩:=k;exact⟨Z0S h1 h.n,Z0J h2 (h.top f h1),a,cap,(h.hdr f h1 g h2).trans h3,h4⟩
 |.mapr b,x,k=>by simp only[Rep]at k|-;exact⟨Z0S k.1 h.n,by rw[h.blk b k.1];exact k.2⟩
 |.func fn f c,x,k=>by simp only[Rep]at k|-;obtain⟨fs,cs,hx,h1,h2⟩:=k;exact⟨fs,cs,hx,A0v.mono h f _ h1,A0v.mono h c _ h2⟩
 |.iface t v,x,k=>by simp only[Rep]at k|-;obtain⟨y,hx,h1⟩:=k;exact⟨y,hx,Rep.mono h v y h1⟩
 |.agg cs,x,k=>by simp only[Rep]at k|-;obtain⟨ys,hx,h1,h2⟩:=k;exact⟨ys,hx,A0v.mono h cs _ h1,h2⟩
 |.tuple cs,x,k=>by simp only[Rep]at k|-;obtain⟨ys,hx,h1⟩:=k;exact⟨ys,hx,A0v.mono h cs _ h1⟩
def A0v.mono{G G'}(h:G.le G'):∀(cs:List AV) (ys:List Value),A0v G cs ys->A0v G' cs ys
 |[],ys,k=>by simpa[A0v]using k
 |c::cs,ys,k=>by simp only[A0v]at k|-;obtain⟨y,a,hy,h1,h2⟩:=k;exact⟨y,a,hy,Rep.mono h c y h1,A0v.mono h cs a h2⟩
def A0S.mono{G G'}(h:G.le G'):∀(cs:List AV) (b i:Nat),A0S G cs b i->A0S G' cs b i
 |[],_,_,_=>by simp[A0S]
 |c::cs,b,i,k=>by simp only[A0S]at k|-;obtain⟨⟨v,hv,ho,h1⟩,h2⟩:=k;exact⟨⟨v,h.st b i v hv,ho,Rep.mono h c v h1⟩,A0S.mono h cs b (i+1) h2⟩
def A0F.mono{G G'}(h:G.le G')(sz:Nat):∀(rs:List (List AV)) (b i:Nat),A0F G sz rs b i->A0F G' sz rs b i
 |[],_,_,_=>by simp[A0F]
 |r::rs,b,i,k=>by simp only[A0F]at k|-;exact⟨⟨k.1.1,A0S.mono h r b i k.1.2⟩,A0F.mono h sz rs b (i+sz) k.2⟩
end
def A0v.length{G}:∀{cs:List AV} {ys:List Value},A0v G cs ys->ys.length=cs.length
 |[],ys,k=>by simp only[A0v]at k;subst k;rfl
 |c::cs,ys,k=>by simp only[A0v]at k;obtain⟨y,a,rfl,_,h2⟩:=k;simp[A0v.length h2]
def A0v.get{G}:∀{cs:List AV} {ys:List Value},A0v G cs ys->∀{i:Nat} {c:AV},cs[i]?=some c->∃y,ys[i]?=some y/\Rep G c y
 |[],_,_,i,c,hc=>by simp at hc
 |c::cs,ys,k,i,c',hc=>by
  simp only[A0v]at k;obtain⟨y,a,rfl,h1,h2⟩:=k;cases i with
  |zero=>simp at hc;subst hc;exact⟨y,rfl,h1⟩
  |succ i=>simpa using A0v.get h2 (i:=i) (by simpa using hc)
def A0v.append{G}:∀{cs ds:List AV} {ys zs:List Value},A0v G cs ys->A0v G ds zs->A0v G (cs++ds) (ys++zs)
 |[],ds,ys,zs,k,h=>by simp only[A0v]at k;subst k;exact h
 |c::cs,ds,ys,zs,k,h=>by simp only[A0v]at k;obtain⟨y,a,rfl,h1,h2⟩:=k;simp only[Z0Q,A0v];exact⟨_,_,rfl,h1,A0v.append h2 h⟩
def A0v.take{G}:∀{cs:List AV} {ys:List Value},A0v G cs ys->∀n,A0v G (cs.take n) (ys.take n)
 |[],ys,k,n=>by simp only[A0v]at k;subst k;simp[A0v]
 |c::cs,ys,k,n=>by
  simp only[A0v]at k;obtain⟨y,a,rfl,h1,h2⟩:=k;cases n with
  |zero=>simp[A0v]
  |succ n=>simp only[Z1h,A0v];exact⟨_,_,rfl,h1,A0v.take h2 n⟩
def A0v.drop{G}:∀{cs:List AV} {ys:List Value},A0v G cs ys->∀n,A0v G (cs.drop n) (ys.drop n)
 |[],ys,k,n=>by simp only[A0v]at k;subst k;simp[A0v]
 |c::cs,ys,k,n=>by
  cases n with
  |zero=>simpa using k
  |succ n=>simp only[A0v]at k;obtain⟨y,a,rfl,h1,h2⟩:=k;simpa using A0v.drop h2 n
def A0S.get{G}:∀{cs:List AV} {b i:Nat},A0S G cs b i->∀{j:Nat} {c:AV},cs[j]?=some c->∃v,G.st b (i+j)=some v/\v.oneCell'=true/\Rep G c v
 |[],_,_,_,j,c,hc=>by simp at hc
 |c::cs,b,i,k,j,c',hc=>by
  simp only[A0S]at k;obtain⟨⟨v,hv⟩,h2⟩:=k;cases j with
  |zero=>simp at hc;subst hc;exact⟨v,hv⟩
  |succ j=>obtain⟨v',h⟩:=A0S.get h2 (j:=j) (by simpa using hc);exact⟨v',by rw[show i+(j+1)=i+1+j from by omega];exact h.1,h.2⟩
def A0S.drop{G}:∀{cs:List AV} {b i:Nat},A0S G cs b i->∀n,A0S G (cs.drop n) b (i+n)
 |[],_,_,_,n=>by simp[A0S]
 |c::cs,b,i,k,n=>by
  cases n with
  |zero=>simpa using k
  |succ n=>simp only[A0S]at k;rw[show i+(n+1)=i+1+n from by omega];simpa using A0S.drop k.2 n
def A0S.take{G}:∀{cs:List AV} {b i:Nat},A0S G cs b i->∀n,A0S G (cs.take n) b i
 |[],_,_,_,n=>by simp[A0S]
 |c::cs,b,i,k,n=>by
  cases n with
  |zero=>simp[A0S]
  |succ n=>simp only[A0S,Z1h]at k|-;exact⟨k.1,A0S.take k.2 n⟩
def A0S.append{G}:∀{cs ds:List AV} {b i:Nat},A0S G cs b i->A0S G ds b (i+cs.length)->A0S G (cs++ds) b i
 |[],_,_,_,_,h=>by simpa using h
 |c::cs,ds,b,i,k,h=>by simp only[A0S,Z0Q]at k|-;exact⟨k.1,A0S.append k.2 (by rw[show i+1+cs.length=i+(c::cs).length from by simp;omega];exact h)⟩
def A0S.vals{G}:∀{cs:List AV} {b i:Nat},A0S G cs b i->∃vs:List Value,A0v G cs vs/\vs.length=cs.length/\(∀v∈vs,v.oneCell'=true)/\∀j v,vs[j]?=some v->G.st b (i+j)=some v
 |[],_,_,_=>⟨[],by simp[A0v],rfl,Q1,Q1⟩
 |c::cs,b,i,k=>by
  simp only[A0S]at k;obtain⟨⟨v,hv,ho,h1⟩,h2⟩:=k;obtain⟨vs,h3,h4,h5,h6⟩:=A0S.vals h2;refine⟨v::vs,by simp only[A0v];exact⟨v,vs,rfl,h1,h3⟩,by simp[h4],by simpa[ho]using h5,?_⟩;intro j u hu;cases j with
  |zero=>simp at hu;subst hu;exact hv
  |succ j=>rw[show i+(j+1)=i+1+j from by omega];exact h6 j u (by simpa using hu)
def A0S.mk{G}:∀{cs:List AV} {vs:List Value} {b i:Nat},A0v G cs vs->(∀v∈vs,v.oneCell'=true)->(∀j v,vs[j]?=some v->G.st b (i+j)=some v)->A0S G cs b i
 |[],_,_,_,_,_,_=>by simp[A0S]
 |c::cs,vs,b,i,k,ho,h=>by simp only[A0v]at k;obtain⟨y,a,rfl,h1,h2⟩:=k;simp only[A0S];exact⟨⟨y,by simpa using h 0 y rfl,ho y Q1,h1⟩,A0S.mk h2 (λv hv=>ho v (by simp[hv])) (λj v hv=>by rw[show i+1+j=i+(j+1)from by omega];exact h (j+1) v (by simpa using hv))⟩
def A0F.row{G}{sz}:∀{rs:List (List AV)} {b i:Nat},A0F G sz rs b i->∀{j:Nat} {r:List AV},rs[j]?=some r->r.length=sz/\A0S G r b (i+j*sz)
 |[],_,_,_,j,r,hr=>by simp at hr
 |r::rs,b,i,k,j,r',hr=>by
  simp only[A0F]at k;cases j with
  |zero=>simp at hr;subst hr;simpa using k.1
  |succ j=>have:=A0F.row k.2 (j:=j) (by simpa using hr);refine⟨this.1,?_⟩;rw[show i+(j+1)*sz=i+sz+j*sz from by rw[Z0R];omega];exact this.2
def A0F.flat{G}{sz}:∀{rs:List (List AV)} {b i:Nat},A0F G sz rs b i->A0S G rs.flatten b i/\rs.flatten.length=rs.length*sz
 |[],_,_,_=>by simp[A0S]
 |r::rs,b,i,k=>by
  simp only[A0F]at k;have h:=A0F.flat k.2;refine⟨?_,?_⟩
  .simp only[Z1d];exact A0S.append k.1.2 (by rw[k.1.1];exact h.1)
  .simp only[Z1d,Z0k,Z0r,h.2,k.1.1,Z0R];omega
def A0F.mk{G}{sz}:∀{rs:List (List AV)} {b i:Nat},(∀r∈rs,r.length=sz)->A0S G rs.flatten b i->A0F G sz rs b i
 |[],_,_,_,_=>by simp[A0F]
 |r::rs,b,i,hs,k=>by simp only[A0F];have hr:r.length=sz:=hs r Q1;have h1:=A0S.take k r.length;have h2:=A0S.drop k r.length;simp only[Z1d,Z4D,List.drop_left]at h1 h2;exact⟨⟨hr,h1⟩,A0F.mk (λx hx=>hs x (by simp[hx])) (by rw[<-hr];exact h2)⟩
def A0F.sizes{G}{sz}{rs}{b i}(k:A0F G sz rs b i):∀r∈rs,r.length=sz:=by intro r hr;obtain⟨j,hj,rfl⟩:=Z2z.1 hr;exact(A0F.row k (j:=j) (by simp[hj])).1
def A0F.take{G}{sz}:∀{rs:List (List AV)} {b i:Nat},A0F G sz rs b i->∀n,A0F G sz (rs.take n) b i
 |[],_,_,_,n=>by simp[A0F]
 |r::rs,b,i,k,n=>by
  cases n with
  |zero=>simp[A0F]
  |succ n=>simp only[A0F,Z1h]at k|-;exact⟨k.1,A0F.take k.2 n⟩
def A0F.drop{G}{sz}:∀{rs:List (List AV)} {b i:Nat},A0F G sz rs b i->∀n,A0F G sz (rs.drop n) b (i+n*sz)
 |[],_,_,_,n=>by simp[A0F]
 |r::rs,b,i,k,n=>by
  cases n with
  |zero=>simpa using k
  |succ n=>simp only[A0F]at k;rw[show i+(n+1)*sz=i+sz+n*sz from by rw[Z0R];omega];simpa using A0F.drop k.2 n
inductive A0m where
 |gone
 /-- a variable,of type t -/
 |cells (t:TypeId) (cs:List AV)
 |fam (m sz:Nat)
 /-- an array that may be written:its cells,its time,and which of its slices (by time and length) still read as its first cells -/
 |vec (e:TypeId) (sz:Nat) (cs:List AV) (g:Nat) (hist:List (Nat×Nat))
 /-- a map:keys,values,ages -/
 |map (es:List (AV×AV×Nat)) (clock:Nat)
 |siter (s:ByteArray) (pos:Nat)
 |miter (m:Option Nat) (since:Nat) (A2B:List Nat) (stepped:Nat)
abbrev Mem:=List A0m
abbrev Env:=Nat->AV
def A3p(G:A0q)(k:Nat)(o:A0m)(b:Nat):Prop:=match o with
 |.gone=>False
 |.fam m _=>m<(G.hdr k m).2/\∃a,(G.hdr k m).1=some a/\a.block=b
 |.vec _ _ _ _ hist=>∃h n a,(h,n)∈hist/\(G.hdr k h).1=some a/\a.block=b
 |_=>b=G.blk k
def D9j(G:A0q)(w:World)(k:Nat)(t:TypeId)(sz:Nat)(cs:List AV)(h n:Nat):Prop:=h<=G.top k/\n*sz<=cs.length/\∃b o cap vs,G.hdr k h=(some ⟨b,o,none⟩,cap)/\n<=cap/\cap<=maxLen/\w.heap[b]?=some (.cells vs t (0,0))/\o+cap*sz<=vs.size/\A0v G (cs.take (n*sz)) ((vs.toList.drop o).take (n*sz))/\(∀v∈(vs.toList.drop o).take (n*sz),v.oneCell'=true)/\(∀i,G.st b i=none)/\G.keep b=none
def B3S(G:A0q)(e:AV×AV×Nat)(x:MapEntry):Prop:=Rep G e.1 x.key/\Rep G e.2.1 x.val/\x.born=e.2.2
inductive A1v (G:A0q):List (AV×AV×Nat)->List MapEntry->Prop
 |nil:A1v G [] []
 |cons {e x es xs}:B3S G e x->A1v G es xs->A1v G (e::es) (x::xs)
def A1v.mono{G G'}(h:G.le G'){es}{xs}(k:A1v G es xs):A1v G' es xs:=by
 induction k with
 |nil=>exact .nil
 |cons h1 _ ih=>exact .cons ⟨Rep.mono h _ _ h1.1,Rep.mono h _ _ h1.2.1,h1.2.2⟩ ih
def A5y(G:A0q)(w:World)(k:Nat):A0m->Prop
 |.gone=>True
 |.cells t cs=>∃(vs:Array Value),w.heap[G.blk k]?=some (.cells vs t (0,0))/\A0v G cs vs.toList/\(∀v∈vs.toList,v.oneCell'=true)/\(∀i,G.st (G.blk k) i=none)/\G.keep (G.blk k)=none
 |.fam m sz=>G.top k=m/\m<=(G.hdr k m).2/\(G.hdr k m).2<=maxLen/\(m<(G.hdr k m).2->∃(g:Nat) (vs:Array Value) (t:TypeId),(G.hdr k m).1=some ⟨g,0,none⟩/\w.heap[g]?=some (.cells vs t (0,0))/\(G.hdr k m).2*sz<=vs.size/\(∀i,m*sz<=i->G.st g i=none)/\G.keep g=none)
 |.vec e sz cs g hist=>G.top k=g/\(∀h n,(h,n)∈hist->D9j G w k e sz cs h n)/\(∀h n h' n' a a' c c',(h,n)∈hist->(h',n')∈hist->G.hdr k h=(some a,c)->G.hdr k h'=(some a',c')->a.block=a'.block->a=a')
 |.map es clock=>∃xs:Array MapEntry,w.heap[G.blk k]?=some (.map xs clock)/\A1v G es xs.toList/\G.keep (G.blk k)=none
 |.siter s pos=>w.heap[G.blk k]?=some (.stringIter s pos)/\G.keep (G.blk k)=none
 |.miter m since A2B stepped=>w.heap[G.blk k]?=some (.mapIter (m.map G.blk) since A2B.toArray stepped)/\(∀b∈m,b<G.n)/\G.keep (G.blk k)=none
structure Ctx where
 P:Program
 gl:Nat->AV
 /-- variables whose whole memory is known -/
 tab:Nat->Option (Array Value)
 /-- types of slices that are made as data,whatever the hint says -/
 data:TypeId->Bool
structure Inv (C:Ctx) (G:A0q) (M:Mem) (w:World):Prop where
 n:G.n=M.length
 st:∀b i v,G.st b i=some v->w.cell? ⟨b,i,none⟩=some v
 keep:∀b o,G.keep b=some o->w.heap[b]?=some o
 obj:∀k o,M[k]?=some o->A5y G w k o
 apart:∀j k x y b,M[j]?=some x->M[k]?=some y->A3p G j x b->A3p G k y b->j=k
 gl:∀g,Rep G (C.gl g) (.pointer (some ⟨g,0,none⟩))
 tab:∀g cs,C.tab g=some cs->∃t f,G.keep g=some (.cells cs t f)
def Inv.tab_le{C}{G G'}{M}{w}(hi:Inv C G M w)(a:G.le G'):∀g cs,C.tab g=some cs->∃t f,G'.keep g=some (.cells cs t f):=λg cs h=>by obtain⟨t,f,k⟩:=hi.tab g cs h;exact⟨t,f,a.keep _ _ k⟩
structure Ext (w w':World):Prop where
 os:w'.os=w.os
 tape:w'.tape=w.tape
 output:w'.output=w.output
 size:w.heap.size<=w'.heap.size
def Ext.refl(w:World):Ext w w:=⟨rfl,rfl,rfl,Z0j _⟩
def Ext.trans{a b c}(h:Ext a b)(k:Ext b c):Ext a c:=⟨k.os.trans h.os,k.tape.trans h.tape,k.output.trans h.output,Z0J h.size k.size⟩
def A0P{α:Type}{l:List α}{k:Nat}{x:α}(h:l[k]?=some x):k<l.length:=by
 rcases Z4q k l.length with h'|h'
 .exact h'
 .simp[Z1J h']at h
def A4x{w:World}{b:Nat}{o:Obj}(h:w.heap[b]?=some o):b<w.heap.size:=(Z1L.1 h).1
def A5y.owns_lt{G:A0q}{w:World}{k:Nat}{o:A0m}(h:A5y G w k o){b:Nat}(ho:A3p G k o b):b<w.heap.size:=by
 cases o with
 |gone=>exact ho.elim
 |cells t cs=>obtain⟨vs,h1,_⟩:=h;simp only[A3p]at ho;subst ho;exact A4x h1
 |fam m sz=>obtain⟨hlt,a,ha,rfl⟩:=ho;obtain⟨g,vs,t,q1,q2,_⟩:=h.2.2.2 hlt;rw[q1]at ha;simp only[Z0b]at ha;subst ha;exact A4x q2
 |vec e sz rows g hist=>obtain⟨h',n,a,hm,ha,rfl⟩:=ho;obtain⟨_,_,b,o,cap,vs,q1,_,_,q2,_⟩:=h.2.1 h' n hm;rw[q1]at ha;simp only[Z0b]at ha;subst ha;exact A4x q2
 |map es clock=>obtain⟨xs,h1,_⟩:=h;simp only[A3p]at ho;subst ho;exact A4x h1
 |siter s pos=>simp only[A3p]at ho;subst ho;exact A4x h.1
 |miter m since A2B stepped=>simp only[A3p]at ho;subst ho;exact A4x h.1
def A5y.keeps{G G'}{w w'}{k}{o}(h:A5y G w k o)(j:G.le G')(hk:k<G.n)(a:G'.blk k=G.blk k)(d:G'.hdr k=G.hdr k/\G'.top k=G.top k) (l:∀b,A3p G k o b->∀i v,G'.st b i=some v->G.st b i=some v)(c:∀b,G'.keep b=G.keep b)(hw:∀b,A3p G k o b->w'.heap[b]?=w.heap[b]?):A5y G' w' k o:=by
 have B6P:∀b,A3p G k o b->∀i,G.st b i=none->G'.st b i=none:=by
  intro b hb i hn;cases hs:G'.st b i with
  |none=>rfl
  |some v=>rw[l b hb i v hs]at hn;simp at hn
 cases o with
 |gone=>trivial
 |cells t cs=>
  obtain⟨vs,h1,h2,h3,h4,h5⟩:=h
  refine⟨vs,by rw[a,hw _ rfl];exact h1,A0v.mono j _ _ h2,h3,λi=>?_,by rw[a,c];exact h5⟩
  rw[a];exact B6P _ rfl i (h4 i)
 |fam m sz=>
  obtain⟨h0,h1,p,h2⟩:=h
  simp only[A5y,d.1,d.2]
  refine⟨h0,h1,p,λhlt=>?_⟩
  obtain⟨g,vs,t,q1,q2,q3,q4,q5⟩:=h2 hlt
  have f:A3p G k (.fam m sz) g:=⟨hlt,_,q1,rfl⟩
  exact⟨g,vs,t,q1,by rw[hw _ f];exact q2,q3,λi hi'=>B6P _ f i (q4 i hi'),by rw[c];exact q5⟩
 |vec e sz rows g hist=>
  obtain⟨h0,h2,h3⟩:=h
  simp only[A5y,d.1,d.2]
  refine⟨h0,λh' n hm=>?_,h3⟩
  obtain⟨p1,p2,b,o,cap,vs,q1,q2,q3,q4,q5,q6,q7,q8,q9⟩:=h2 h' n hm
  have f:A3p G k (.vec e sz rows g hist) b:=⟨h',n,_,hm,by rw[q1],rfl⟩
  exact⟨by rw[d.2];exact p1,p2,b,o,cap,vs,by rw[d.1];exact q1,q2,q3,by rw[hw _ f];exact q4,q5,A0v.mono j _ _ q6,q7,λi=>B6P _ f i (q8 i),by rw[c];exact q9⟩
 |map es clock=>
  obtain⟨xs,h1,h2,h3⟩:=h
  exact⟨xs,by rw[a,hw _ rfl];exact h1,h2.mono j,by rw[a,c];exact h3⟩
 |siter s pos=>exact⟨by rw[a,hw _ rfl];exact h.1,by rw[a,c];exact h.2⟩
 |miter m since A2B stepped=>
  refine⟨?_,λb hb=>Z0S (h.2.1 b hb) j.n,by rw[a,c];exact h.2.2⟩
  have e:m.map G'.blk=m.map G.blk:=by
   cases m with
   |none=>rfl
   |some b=>simp[j.blk b (h.2.1 b rfl)]
  rw[a,hw _ rfl,h.1,e]
def Inv.step{C:Ctx}{G G':A0q}{M:Mem}{w w':World}(hi:Inv C G M w)(k gb:Nat){o o':A0m}(hk:M[k]?=some o)
 (a6:A3p G k o gb\/w.heap.size<=gb)(z:G.le G')(hn:G'.n=G.n)(u:∀b,G'.blk b=G.blk b)
 (t:∀f,f≠k->G'.hdr f=G.hdr f/\G'.top f=G.top f)
 (a0:∀b i v,G'.st b i=some v->G.st b i=some v\/(b=gb/\w'.cell? ⟨b,i,none⟩=some v))(m:∀b,G'.keep b=G.keep b)
 (hw:∀b,b<w.heap.size->b≠gb->w'.heap[b]?=w.heap[b]?)(a2:∀i v,G.st gb i=some v->w'.cell? ⟨gb,i,none⟩=some v)(p:∀o,G.keep gb≠some o)
 (ho:A5y G' w' k o')(a1:∀b,A3p G' k o' b->b=gb\/A3p G k o b):Inv C G' (M.set k o') w':=by
 have s:=A0P hk
 have c:∀b i v,w.cell? ⟨b,i,none⟩=some v->b<w.heap.size:=λb i v h=>Z2I w ⟨b,i,none⟩ h
 have d:∀j x b,M[j]?=some x->j≠k->A3p G j x b->b≠gb:=by
  intro j x b hj a5 hb e;subst e;have hlt:=(hi.obj j x hj).owns_lt hb;rcases a6 with h|h
  .exact a5 (hi.apart j k x o b hj hk hb h)
  .omega
 have a:∀j x b,j≠k->(A3p G' j x b<->A3p G j x b):=by intro j x b hj;cases x<;>simp[A3p,u,(t j hj).1]
 refine⟨by rw[hn];simpa using hi.n,?_,?_,?_,?_,λg=>Rep.mono z _ _ (hi.gl g),hi.tab_le z⟩
 .intro b i v hv;rcases a0 b i v hv with h|⟨_,h⟩
  .by_cases e:b=gb
   .subst e;exact a2 i v h
   .have:=hi.st b i v h;have hlt:=c b i v this;simpa[World.cell?,hw b hlt e]using this
  .exact h
 .intro b x hx;rw[m]at hx;have h0:=hi.keep b x hx;have hlt:b<w.heap.size:=(Z1L.1 h0).1;have a4:b≠gb:=by intro e;subst e;exact p x hx
  rw[hw b hlt a4];exact h0
 .intro j x hj;by_cases e:j=k
  .subst e;simp[s]at hj;subst hj;exact ho
  ·(have q:M[j]?=some x:=by have:k≠j:=λh=>e h.symm;simpa[Z2T,this]using hj);have hx:=hi.obj j x q;refine hx.keeps z (by rw[hi.n];exact A0P q) (u j) (t j e) (λb hb i v hv=>?_) m (λb hb=>hw b (hx.owns_lt hb) (d j x b q e hb));rcases a0 b i v hv with h|⟨h,_⟩
   .exact h
   .exact absurd h (d j x b q e hb)
 .intro i j x y b hx hy ox oy;have l:∀i x,i≠k->(M.set k o')[i]?=some x->M[i]?=some x:=by intro i x e hx;have:k≠i:=λh=>e h.symm;simpa[Z2T,this]using hx
  have key:∀i j x y,i=k->j≠k->(M.set k o')[i]?=some x->(M.set k o')[j]?=some y->A3p G' i x b->A3p G' j y b->False:=by
   intro i j x y e1 e2 hx hy ox oy;subst e1;simp[s]at hx;subst hx;have r:=l j y e2 hy;rw[a j y b e2]at oy;rcases a1 b ox with hb|hb
   .exact d j y b r e2 oy hb
   .exact e2 (hi.apart j i y o b r hk oy hb)
  by_cases e1:i=k<;>by_cases e2:j=k
  .rw[e1,e2]
  .exact(key i j x y e1 e2 hx hy ox oy).elim
  .exact(key j i y x e2 e1 hy hx oy ox).elim
  .have a3:=l i x e1 hx;have r:=l j y e2 hy;rw[a i x b e1]at ox;rw[a j y b e2]at oy;exact hi.apart i j x y b a3 r ox oy
def A0q.more(G:A0q)(nb:Nat)(h:Nat->Option Addr×Nat)(t:Nat):A0q:={G with n:=G.n+1,blk:=λb=>if b=G.n then nb else G.blk b,hdr:=λf=>if f=G.n then h else G.hdr f,top:=λf=>if f=G.n then t else G.top f}
def A0q.le_more(G:A0q)(nb:Nat)(h:Nat->Option Addr×Nat)(t:Nat):G.le (G.more nb h t):=⟨Nat.le_succ _,λb hb=>Z0d Q0,λ_ _ _ h=>h,λ_ _ h=>h,λf hf=>by simp only[A0q.more];rw[Z0d Q0];exact Z0j _,λf hf k _=>by simp only[A0q.more];rw[Z0d Q0]⟩
def Inv.more{C}{G}{M}{w}(hi:Inv C G M w)(nb:Nat)(h:Nat->Option Addr×Nat)(t:Nat):Inv C (G.more nb h t) (M++[.gone]) w:=by
 have c:=G.le_more nb h t;have a:∀j x,(M++[A0m.gone])[j]?=some x->(j<G.n/\M[j]?=some x)\/x=A0m.gone:=by
  intro j x h;by_cases hj:j<M.length
  .left;exact⟨by rw[hi.n];exact hj,by rwa[Z0o hj]at h⟩
  .right;rw[Z1t Q0]at h;have:=Z3S h;simpa using this
 have ob:∀k x b,k<G.n->(A3p (G.more nb h t) k x b<->A3p G k x b):=λk x b hk=>by have:k≠G.n:=Q0;cases x<;>simp[A3p,A0q.more,this]
 refine⟨by simpa[A0q.more]using hi.n,hi.st,hi.keep,?_,?_,λg=>Rep.mono c _ _ (hi.gl g),hi.tab_le c⟩
 .intro j x hj;rcases a j x hj with⟨hlt,h⟩|rfl
  .have d:j≠G.n:=Q0;exact(hi.obj j x h).keeps c hlt (by simp[A0q.more,d]) (by simp[A0q.more,d]) (λ_ _ _ _ h=>h) (λ_=>rfl) (λ_ _=>rfl)
  .trivial
 .intro i j x y b hx hy ox oy;rcases a i x hx with⟨hl,h⟩|rfl
  .rcases a j y hy with⟨e,h'⟩|rfl
   .rw[ob i x b hl]at ox;rw[ob j y b e]at oy;exact hi.apart i j x y b h h' ox oy
   .exact oy.elim
  .exact ox.elim
def Inv.world{C:Ctx}{G:A0q}{M:Mem}{w w':World}(hi:Inv C G M w)(h:w'.heap=w.heap):Inv C G M w':=by
 refine⟨hi.n,λb i v hv=>?_,λb o ho=>?_,λk o hk=>?_,hi.apart,hi.gl,hi.tab⟩
 .have:=hi.st b i v hv;simpa[World.cell?,h]using this
 .rw[h];exact hi.keep b o ho
 .exact(hi.obj k o hk).keeps (.refl _) (by rw[hi.n];exact A0P hk) rfl ⟨rfl,rfl⟩ (λ_ _ _ _ h=>h) (λ_=>rfl) (λ_ _=>by rw[h])
def Env.put(T:Env)(d:Option Nat)(v:AV):Env:=match d with
 |none=>T
 |some d=>λj=>if j=d then v else T j
@[simp] def Env.put_none(T:Env)(v:AV):T.put none v=T:=(rfl)
def Env.put_some(T:Env)(d:Nat)(v:AV)(j:Nat):T.put (some d) v j=if j=d then v else T j:=rfl
def Env.of(args:List AV):Env:=λi=>args.getD i .poison
structure A3e (G:A0q) (N:Nat) (T:Env) (a:Act):Prop where
 defers:a.defers=[]
 size:a.tmps.size=N
 at_:∀i,i<N->Rep G (T i) (a.tmps.getD i undef)
def A3e.mono{G G'}(h:G.le G'){N}{T}{a}(k:A3e G N T a):A3e G' N T a:=⟨k.defers,k.size,λi hi=>Rep.mono h _ _ (k.at_ i hi)⟩
def A3e.put{G}{N}{T}{a}(k:A3e G N T a){d}{v}{x}(hv:Rep G v x):A3e G N (T.put d v) (a.put d x):=by
 cases d with
 |none=>exact k
 |some d=>
  refine⟨k.defers,by simpa[Act.put]using k.size,λi hi=>?_⟩;have h0:=k.at_ i hi;have hs:=k.size;rw[Env.put_some];by_cases e:i=d
  .subst e;rw[Z0c rfl];simpa[Act.put,Array.getD,hi,hs]using hv
  .rw[Z0d e];have b:d≠i:=λh=>e h.symm;simpa[Act.put,Array.getD,hi,hs,Array.getElem_setIfInBounds,b]using h0
def A3e.of{G}{args}{vs}(n:Nat)(k:A0v G args vs):
 A3e G (vs.length+n) (Env.of args) {tmps:=vs.toArray++Array.replicate n undef,defers:=[]}:=by
 refine⟨rfl,Q1,λi hi=>?_⟩
 by_cases h:i<args.length
 .obtain⟨y,hy,hr⟩:=k.get (i:=i) (c:=args[i]) (by simp[h]);have a:=k.length;have hlt:i<vs.length:=Q0;have e1:Env.of args i=args[i]:=by simp[Env.of,h]
  rw[e1];have:vs[i]=y:=by rw[Z0g hlt]at hy;exact Z1a hy
  simpa[Array.getD,hlt,Array.getElem_append,this,hi]using hr
 .have e1:Env.of args i=.poison:=by have:args.length<=i:=Q0;simp[Env.of,List.getD,Z1J this]
  rw[e1];simp[Rep]
def Env.ev(C:Ctx)(T:Env):Operand->AV
 |.tmp t=>T t
 |.const v=>.val v
 |.global g=>C.gl g
 |.func f=>.func (.func f) [] []
def Operand.inside(N:Nat):Operand->Bool
 |.tmp t=>decide (t<N)
 |_=>true
def D2H{C}{G}{M}{w}{N}{T}{a}(hi:Inv C G M w)(he:A3e G N T a)(x:Operand)(hx:Operand.inside N x=true):Rep G (T.ev C x) (a.eval x):=by
 cases x with
 |tmp t=>simp only[Env.ev,Act.eval];exact he.at_ t (by simpa[Operand.inside]using hx)
 |const v=>simp[Env.ev,Act.eval,Rep]
 |global g=>exact hi.gl g
 |func f=>simp[Env.ev,Act.eval,Rep,A0v]
def B4Z(C:Ctx)(N:Nat)(Q:Exit->Env->Mem->Prop)(G:A0q)(w:World):Exit->Act->World->Prop:=λe a' w'=>∃T' M' G',Q e T' M'/\G.le G'/\Inv C G' M' w'/\A3e G' N T' a'/\Ext w w'
def B4Z.mono{C}{N}{Q:Exit->Env->Mem->Prop}{G G'}{w w'}(h:G.le G')(k:Ext w w'){e}{a}{v} (l:B4Z C N Q G' w' e a v):B4Z C N Q G w e a v:=by
 obtain⟨T',M',b,h1,h2,h3,h4,h5⟩:=l
 exact⟨T',M',b,h1,h.trans h2,h3,h4,k.trans h5⟩
def B4Z.weaken{C}{N}{Q Q':Exit->Env->Mem->Prop}{G}{w}(h:∀e T M,Q e T M->Q' e T M){e}{a}{v} (l:B4Z C N Q G w e a v):B4Z C N Q' G w e a v:=by
 obtain⟨T',M',b,h1,h2⟩:=l
 exact⟨T',M',b,h _ _ _ h1,h2⟩
def AWp(C:Ctx)(N:Nat)(c:Code)(Q:Exit->Env->Mem->Prop)(T:Env)(M:Mem):Prop:=∀G w a,Inv C G M w->A3e G N T a->c.wp C.P (B4Z C N Q G w) a w
def A0c(C:Ctx)(f:FuncId)(args:List AV)(M:Mem)(Q:AV->Mem->Prop):Prop:=∀G w (vs:List Value),Inv C G M w->A0v G args vs->Calls C.P f vs.toArray w λe w'=>∃r M' G' v,e=.returned v/\Q r M'/\G.le G'/\Inv C G' M' w'/\Rep G' r v/\Ext w w'
def A0c.mono{C}{f}{args}{M}{Q Q':AV->Mem->Prop}(h:A0c C f args M Q)(hq:∀r M',Q r M'->Q' r M'):A0c C f args M Q':=by intro G w vs hi hr;refine Z1E (h G w vs hi hr) ?_;rintro e w' ⟨r,M',G',v,rfl,h1,h2⟩;exact⟨r,M',G',v,rfl,hq _ _ h1,h2⟩
section control
variable {C:Ctx} {N:Nat} {Q Q':Exit->Env->Mem->Prop} {T:Env} {M:Mem}
def AWp.mono{c}(h:AWp C N c Q T M)(hq:∀e T M,Q e T M->Q' e T M):AWp C N c Q' T M:=λG w a hi he=>Z4E (h G w a hi he) λ_ _ _ l=>B4Z.weaken hq l
def C4r(K:Env->Mem->Prop)(Q:Exit->Env->Mem->Prop):Exit->Env->Mem->Prop
 |.normal,T,M=>K T M
 |e,T,M=>Q e T M
def D3O(h:Q .normal T M):AWp C N .skip Q T M:=λG w a hi he=>wp_skip ⟨T,M,G,h,.refl _,hi,he,.refl _⟩
def D1k{l}(h:Q .normal T M):AWp C N (.label l) Q T M:=λG w a hi he=>wp_label ⟨T,M,G,h,.refl _,hi,he,.refl _⟩
def D4m{id}(h:Q (.exit id) T M):AWp C N (.exit id) Q T M:=λG w a hi he=>wp_exit ⟨T,M,G,h,.refl _,hi,he,.refl _⟩
def D6m(h:Q .ret T M):AWp C N .ret Q T M:=λG w a hi he=>wp_ret ⟨T,M,G,h,.refl _,hi,he,.refl _⟩
def D6z{x y}(h:AWp C N x (C4r (AWp C N y Q) Q) T M):AWp C N (.seq x y) Q T M:=by
 intro G w a hi he;refine wp_seq (Z4E (h G w a hi he) ?_);rintro e a' w' ⟨T',M',G',h1,h2,h3,h4,h5⟩;cases e with
 |normal=>exact Z4E (h1 G' w' a' h3 h4) λ_ _ _ l=>B4Z.mono h2 h5 l
 |_=>exact⟨T',M',G',h1,h2,h3,h4,h5⟩
def A9y(id:Nat)(Q:Exit->Env->Mem->Prop):Exit->Env->Mem->Prop
 |.exit id',T,M=>if id'=id then Q .normal T M else Q (.exit id') T M
 |e,T,M=>Q e T M
def D1V{id}{c}(h:AWp C N c (A9y id Q) T M):AWp C N (.block id c) Q T M:=by
 intro G w a hi he;refine wp_block (Z4E (h G w a hi he) ?_);rintro e a' w' ⟨T',M',G',h1,h2⟩;cases e with
 |exit id'=>
  simp only[A9y,Exit.inBlock]at h1|-;by_cases e:id'=id
  .rw[Z0c e]at h1|-;exact⟨T',M',G',h1,h2⟩
  .rw[Z0d e]at h1|-;exact⟨T',M',G',h1,h2⟩
 |_=>exact⟨T',M',G',h1,h2⟩
def D4j{c}{x y}{t}(b:Operand.inside N c=true)(hc:T.ev C c=.val (.bool t))(ht:t=true->AWp C N x Q T M)(hf:t=false->AWp C N y Q T M):AWp C N (.cond c x y) Q T M:=by intro G w a hi he;have h:=D2H hi he c b;rw[hc]at h;simp only[Rep]at h;exact wp_cond_split h (λe=>ht e G w a hi he) (λe=>hf e G w a hi he)
def D4z{c}(I:Env->Mem->Prop)(μ:Env->Mem->Nat)(h0:I T M) (f:∀T M,I T M->AWp C N c (C4r (λT' M'=>I T' M'/\μ T' M'<μ T M) Q) T M):AWp C N (.loop c) Q T M:=by
 intro G w a hi he b k cs
 have key:∀n T M G w a,μ T M=n->I T M->Inv C G M w->A3e G N T a->
  ∃e a' w',B4Z C N Q G w e a' w'/\Arrives C.P (lone (b.at a (.code c::.inLoop c::k)) cs w) b k cs e a' w':=by
  intro n
  induction n using Nat.strongRecOn with
  |_ n ih=>
   intro T M G w a hn hI hi he
   obtain⟨e,a₁,w₁,hq,d⟩:=f T M hI G w a hi he b (.inLoop c::k) cs
   obtain⟨T',M',G',h1,h2,h3,h4,h5⟩:=hq
   cases e with
   |normal=>
    obtain⟨j,hlt⟩:=h1
    obtain⟨e₂,a₂,w₂,i,g⟩:=ih (μ T' M') (hn▸hlt) T' M' G' w₁ a₁ rfl j h3 h4
    exact⟨e₂,a₂,w₂,B4Z.mono h2 h5 i,.of_steps (Steps.trans d (.one step_inLoop)) g⟩
   |exit id=>exact⟨_,a₁,w₁,⟨T',M',G',h1,h2,h3,h4,h5⟩,.pass (x:=.inLoop c) rfl (λ_ _=>.inl Q1) d⟩
   |goto l=>exact⟨_,a₁,w₁,⟨T',M',G',h1,h2,h3,h4,h5⟩,.pass (x:=.inLoop c) rfl (λ_ _=>.inl Q1) d⟩
   |ret=>exact⟨_,a₁,w₁,⟨T',M',G',h1,h2,h3,h4,h5⟩,.pass (x:=.inLoop c) rfl (λ_ _=>.inl Q1) d⟩
   |panic ch=>exact⟨_,a₁,w₁,⟨T',M',G',h1,h2,h3,h4,h5⟩,.pass (x:=.inLoop c) rfl (λ_ _=>.inl Q1) d⟩
   |outgrown=>exact⟨_,a₁,w₁,⟨T',M',G',h1,h2,h3,h4,h5⟩,.pass (x:=.inLoop c) rfl (λ_ _=>.inl Q1) d⟩
 obtain⟨e,a',w',hq,d⟩:=key _ T M G w a rfl h0 hi he
 exact⟨e,a',w',hq,.of_steps (.one step_loop) d⟩
end control
def A1n(P:Program)(t:TypeId):Option Nat:=(P.info? t).map (·.size)
def A2z(P:Program)(t:TypeId):Option Bool:=(P.underlying t).map λd=>match d with|.struct _|.array _ _=>true|_=>false
def B6S(P:Program)(t:TypeId):Option Nat:=(P.info? t).map (·.bytes)
def A1b(P:Program)(t:TypeId):Option TypeId:=match P.underlying t with|some (.slice e)=>some e|_=>none
def A1H(P:Program)(t:TypeId)(f:Nat):Option Nat:=match P.underlying t with
 |some (.struct fs)=>match fs[f]? with
  |some x=>match A1n P x.type with
   |some 0=>none
   |some _=>some x.offset
   |none=>none
  |none=>none
 |_=>none
section
variable {P:Program}
def A1U{t:TypeId}{n}(h:A1n P t=some n)(w:World):(sizeOf t).run P w=.ok n w:=by
 unfold A1n at h;cases hi:P.info? t with
 |none=>simp[hi]at h
 |some i=>simp[hi]at h;simp[sizeOf,typeInfo,hi,h]
def B2i{t:TypeId}{b}(h:A2z P t=some b)(w:World):(isAgg t).run P w=.ok b w:=by
 unfold A2z at h;cases hi:P.underlying t with
 |none=>simp[hi]at h
 |some d=>simp[hi]at h;simp only[isAgg,Z0E,Z0q hi,Z0u];subst h;cases d<;>rfl
def A2q{t e:TypeId}(h:A1b P t=some e):P.underlying t=some (.slice e):=by
 unfold A1b at h;split at h
 .rename_i e' he;simp at h;subst h;exact he
 .simp at h
end
def A0p(P:Program)(t:TypeId)(cs:List AV):Option AV:=
 match A2z P t,A1n P t with
 |some true,some n=>if n<=cs.length then some (.agg (cs.take n))else none
 |some false,some _=>match cs with|c::_=>some c|[]=>none
 |_,_=>none
def A2g(M:Mem):AV->Option (List AV)
 |.cptr cs=>some cs
 |.ptr b off=>match M[b]? with
  |some (.cells _ cs)=>if off<=cs.length then some (cs.drop off)else none
  |_=>none
 |.vptr f g off=>match M[f]? with
  |some (.vec _ sz cs _ hist)=>match hist.lookup g with
   |some n=>some ((cs.take (n*sz)).drop off)
   |none=>none
  |_=>none
 |_=>none
def A2S{l:List (Nat×Nat)}{g n:Nat}(h:l.lookup g=some n):(g,n)∈l:=by
 induction l with
 |nil=>simp at h
 |cons x xs ih=>
  obtain⟨a,b⟩:=x;simp only[List.lookup_cons]at h;split at h
  .rename_i e;simp only[Z3t]at e;simp only[Z0b]at h;subst e h;exact Z3p
  .exact Z1v _ (ih h)
def C0q{C:Ctx}{G:A0q}{M:Mem}{w:World}(hi:Inv C G M w){p:AV}{x:Value}(hr:Rep G p x){cs:List AV}(h:A2g M p=some cs):∃(b i:Nat) (vs:List Value),x=.pointer (some ⟨b,i,none⟩)/\A0v G cs vs/\(∀v∈vs,v.oneCell'=true)/\∀j v,vs[j]?=some v->w.cell? ⟨b,i+j,none⟩=some v:=by
 cases p with
 |cptr ds=>
  simp only[A2g,Z0b]at h
  subst h
  simp only[Rep]at hr
  obtain⟨b,i,rfl,hm⟩:=hr
  obtain⟨vs,h1,h2,h3,h4⟩:=hm.vals
  exact⟨b,i,vs,rfl,h1,h3,λj v hv=>hi.st _ _ _ (h4 j v hv)⟩
 |ptr b off=>
  simp only[A2g]at h
  simp only[Rep]at hr
  obtain⟨hb,rfl⟩:=hr
  split at h
  .rename_i ty ds hd;split at h
   .rename_i hle;simp only[Z0b]at h;subst h;obtain⟨vs,hh,h1,h2,h3⟩:=hi.obj b _ hd;refine⟨G.blk b,off,vs.toList.drop off,rfl,h1.drop off,λv hv=>h2 v (Z1w hv),?_⟩;intro j v hv;rw[Z0H]at hv;simpa[World.cell?,hh]using hv
   .simp at h
  .simp at h
 |vptr f g off=>
  simp only[A2g]at h
  simp only[Rep]at hr
  obtain⟨hf,hg,a,cap,hd,rfl⟩:=hr
  split at h
  .rename_i ty sz ds g' hist hM;split at h
   .rename_i n hn;simp only[Z0b]at h;subst h;obtain⟨_,h2,_⟩:=hi.obj f _ hM;obtain⟨_,_,b,o,c,vs,q1,q2,q3,q4,q5,q6,q7,q8,q9⟩:=h2 g n (A2S hn);rw[hd]at q1;simp only[Z0i,Z0b]at q1;obtain⟨rfl,rfl⟩:=q1;refine⟨b,o+off,((vs.toList.drop o).take (n*sz)).drop off,rfl,q6.drop off,λv hv=>q7 v (Z1w hv),?_⟩;intro j v hv;rw[Z0H,Z0B]at hv;split at hv
    .rw[Z0H]at hv;rw[Z2U _ _ _ _ _ _ q4,show o+off+j=o+(off+j)from by omega];simpa using hv
    .simp at hv
   .simp at h
  .simp at h
 |_=>simp[A2g]at h
def B3l{C}{G}{M}{w}(hi:Inv C G M w){p}{x}(hr:Rep G p x){t:TypeId}{cs}{r} (h:A2g M p=some cs)(hl:A0p C.P t cs=some r):∃v,(Instr.loadAt t x).run C.P w=.ok v w/\Rep G r v:=by
 obtain⟨b,i,vs,rfl,h1,h2,h3⟩:=C0q hi hr h
 have a:=h1.length
 unfold A0p at hl
 split at hl
 .rename_i n ha hs;split at hl
  .rename_i hle;simp only[Z0b]at hl;subst hl;have hc:=Z4e (P:=C.P) w ⟨b,i,none⟩ (vs.take n) (λj v hv=>by
    rw[Z0B]at hv;split at hv
    .rw[Z1k];exact h3 j v hv
    .simp at hv)
   (have hn:(vs.take n).length=n:=by rw[Z0t];omega);rw[hn]at hc
   refine⟨.agg (vs.take n).toArray,?_,?_⟩
   .simp only[Instr.loadAt,Instr.sureAddr,loadVar,Z0E,Z0O,Z0u,B2i ha,A1U hs,Z1e,hc]
   .simp only[Rep];exact⟨_,rfl,by simpa using h1.take n,λv hv=>h2 v (Z1x ZBQ)⟩
  .simp at hl
 .rename_i n ha hs;split at hl
  .rename_i c cs';simp only[Z0b]at hl;subst hl;simp only[A0v]at h1;obtain⟨y,d,rfl,h5,h6⟩:=h1;refine⟨y,?_,h5⟩;have h0:=h3 0 y rfl;simp only[Z0Y]at h0;simp[Instr.loadAt,Instr.sureAddr,loadVar,B2i ha,run_load,h0]
  .simp at hl
 .simp at hl
def AV.one:AV->Bool
 |.val v=>v.oneCell'
 |.poison|.agg _|.tuple _=>false
 |_=>true
def AV.cells:AV->List AV
 |.agg cs=>cs
 |.val (.agg ys)=>ys.toList.map .val
 |v=>[v]
def AV.storable:AV->Bool
 |.agg _=>true
 |.val (.agg ys)=>ys.toList.all (·.oneCell')
 |v=>v.one
def Rep.one{G}{a}{x}(h:Rep G a x)(h1:a.one=true):x.oneCell'=true:=by
 cases a<;>simp only[AV.one,Z1I]at h1<;>simp only[Rep]at h
 .subst h;exact h1
 .obtain⟨_,rfl⟩:=h;rfl
 .obtain⟨_,_,rfl,_⟩:=h;rfl
 .obtain⟨_,_,rfl,_⟩:=h;rfl
 .obtain⟨_,_,_,_,_,_,_,_,rfl,_⟩:=h;rfl
 .obtain⟨_,_,_,_,_,rfl⟩:=h;rfl
 .obtain⟨_,rfl⟩:=h;rfl
 .obtain⟨_,_,rfl,_⟩:=h;rfl
 .obtain⟨_,rfl,_⟩:=h;rfl
def Rep.cells{G}{a}{x}(h:Rep G a x)(h1:a.storable=true):A0v G a.cells x.cells.toList/\∀v∈x.cells.toList,v.oneCell'=true:=by
 by_cases ha:∃cs,a=.agg cs
 .obtain⟨cs,rfl⟩:=ha;simp only[Rep]at h;obtain⟨ys,rfl,h2,h3⟩:=h;exact⟨by simpa[AV.cells,Value.cells]using h2,by simpa[Value.cells]using h3⟩
 by_cases hv:∃ys,a=.val (.agg ys)
 .obtain⟨ys,rfl⟩:=hv;simp only[Rep]at h;subst h;simp only[AV.storable,Z0D]at h1;refine⟨?_,by simpa[Value.cells]using h1⟩;show A0v G (ys.toList.map .val) ys.toList;generalize ys.toList=l;induction l with
  |nil=>simp[A0v]
  |cons y l ih=>exact⟨y,l,rfl,rfl,ih⟩
 .have b:a.one=true:=by
   cases a with
   |val v=>cases v<;>simp_all [AV.storable,AV.one]
   |_=>simp_all [AV.storable,AV.one]
  have hx:=h.one b;have hc:x.cells=#[x]:=by cases x<;>simp_all [Value.cells,Value.oneCell']
  have c:a.cells=[a]:=by
   cases a with
   |val v=>cases v<;>simp_all [AV.cells]
   |_=>simp_all [AV.cells]
  rw[hc,c];exact⟨by simp[A0v,h],ZDK⟩
def A0e(cs:List AV)(off:Nat)(news:List AV):List AV:=cs.take off++news++cs.drop (off+news.length)
def Inv.setBox{C}{G}{M}{w}(hi:Inv C G M w){k}{cs cs'}{t:TypeId}(hk:M[k]?=some (.cells t cs)){vs}
 (hh:w.heap[G.blk k]?=some (.cells vs t (0,0))){vs'}(hr:A0v G cs' vs'.toList)(h1:∀v∈vs'.toList,v.oneCell'=true):
 Inv C G (M.set k (.cells t cs')) (w.setRow (G.blk k) vs'):=by
 obtain⟨_,_,_,_,c,a⟩:=hi.obj k _ hk
 refine hi.step k (G.blk k) hk (.inl rfl) (.refl _) rfl (λ_=>rfl) (λ_ _=>⟨rfl,rfl⟩) (λb i v h=>.inl h) (λ_=>rfl) (λb _ hne=>Z2o _ _ _ _ hne) (λi v h=>by rw[c i]at h;simp at h) (λo h=>by rw[a]at h;simp at h) ⟨vs',Z2L w _ vs vs' t _ hh,hr,h1,c,a⟩ (λb hb=>.inl hb)
def Ext.setRow(w:World)(g:Nat)(c:Array Value):Ext w (w.setRow g c):=⟨rfl,rfl,rfl,by simp[World.setRow]⟩
def C4q{C}{G}{M}{w}(hi:Inv C G M w){b off}{x}(hr:Rep G (.ptr b off) x){t:TypeId}{cs}{v}{y}{bt:TypeId}(hv:Rep G v y)
 (hb:M[b]?=some (.cells bt cs))(hs:v.storable=true)(j:A1n C.P t=some v.cells.length)(l:off+v.cells.length<=cs.length):
 ∃w',(Instr.storeAt t x y).run C.P w=.ok () w'/\Inv C G (M.set b (.cells bt (A0e cs off v.cells))) w'/\Ext w w':=by
 simp only[Rep]at hr
 obtain⟨k,rfl⟩:=hr
 obtain⟨vs,hh,h1,h2,h3,h4⟩:=hi.obj b _ hb
 obtain⟨i,c⟩:=hv.cells hs
 have g:=h1.length
 have a:=i.length
 have f:=Z2B C.P (G.blk b) off bt y.cells.toList 0 vs w hh (by simp at g a|-;omega) c
 simp only[Z0Y]at f
 refine⟨_,?_,hi.setBox hb hh (vs':=(vs.toList.take off++y.cells.toList++vs.toList.drop (off+y.cells.toList.length)).toArray) ?_ ?_,Ext.setRow _ _ _⟩
 .have d:y.cells.size=v.cells.length:=by simpa using a
  simp only[Instr.storeAt,Instr.sureAddr,storeVar,Z0E,Z0O,Z0u,A1U j,d,ne_eq,Z3c,Z2f,f]
 .simp only[A0e];have e:y.cells.toList.length=v.cells.length:=a;rw[e];exact((h1.take off).append i).append (h1.drop _)
 .intro u hu;simp only[Z0N]at hu;rcases hu with(hu|hu)|hu
  .exact h2 u (Z1x hu)
  .exact c u hu
  .exact h2 u (Z1w hu)
def A0v.of_get{G}:∀{cs:List AV} {ys:List Value},cs.length=ys.length->(∀(i:Nat) (c:AV) (y:Value),cs[i]?=some c->ys[i]?=some y->Rep G c y)->A0v G cs ys
 |[],[],_,_=>by simp[A0v]
 |[],_::_,h,_=>by simp at h
 |_::_,[],h,_=>by simp at h
 |c::cs,y::ys,h,k=>by simp only[A0v];exact⟨y,ys,rfl,k 0 c y rfl rfl,A0v.of_get ZAJ (λi c y h1 h2=>k (i+1) c y ZBF ZAU)⟩
def A0v.get2{G:A0q}{cs:List AV}{ys:List Value}(h:A0v G cs ys){i:Nat}{c:AV}{y:Value}(h1:cs[i]?=some c)(h2:ys[i]?=some y):Rep G c y:=by obtain⟨z,hz,hr⟩:=h.get h1;rw[h2]at hz;simp only[Z0b]at hz;subst hz;exact hr
def B4I{cs news}{off}(h:off+news.length<=cs.length):(A0e cs off news).length=cs.length:=by simp only[A0e,Z0k,Z0t,Z0G];omega
def A5E{α:Type}{cs news:List α}{off i:Nat}(h:off+news.length<=cs.length):(cs.take off++news++cs.drop (off+news.length))[i]?=if off<=i/\i<off+news.length then news[i-off]? else cs[i]?:=by
 by_cases h1:i<off
 .rw[Z0d Q0,Z0F,Z0o ZCJ,Z0B,Z0c h1]
 .by_cases h2:i<off+news.length
  .rw[Z0c Q0,Z0F,Z1t ZCJ,Z0o ZCJ,Z0t];congr 1;omega
  .rw[Z0d Q0,Z1t (by rw[Z0k,Z0t];omega),Z0H];congr 1;rw[Z0k,Z0t];omega
def A0Q(sz g off:Nat)(hist:List (Nat×Nat)):List (Nat×Nat):=hist.filter λx=>x.1==g||decide (x.2*sz<=off)
def A7m{C:Ctx}{G:A0q}{M:Mem}{w:World}(hi:Inv C G M w){f g off:Nat}{x:Value}(hr:Rep G (.vptr f g off) x){ty:TypeId}{sz g' n:Nat}{cs:List AV}{j:List (Nat×Nat)}{news:List AV}{ys:List Value}(a8:A0v G news ys)(a7:∀u∈ys,u.oneCell'=true)
 (hM:M[f]?=some (.vec ty sz cs g' j))(hn:j.lookup g=some n)(ad:off+news.length<=n*sz):
 ∃a w',x=.pointer (some a)/\(storeCells a ys).run C.P w=.ok () w'/\Inv C G (M.set f (.vec ty sz (A0e cs off news) g' (A0Q sz g off j))) w'/\Ext w w':=by
 simp only[Rep]at hr
 obtain⟨hf,hg,a,cap,hd,rfl⟩:=hr
 have d:=a8.length
 obtain⟨p0,p2,p3⟩:=hi.obj f _ hM
 have p:=A2S hn
 obtain⟨_,ag,b,o,ae,vs,q1,q2,q3,q4,q5,q6,q7,q8,q9⟩:=p2 g n p
 have af:=q1
 rw[hd]at q1
 simp only[Z0i,Z0b]at q1
 obtain⟨rfl,rfl⟩:=q1
 have ac:n*sz<=cap*sz:=Z0V _ q2
 have y:=Z2B C.P b (o+off) ty ys 0 vs w q4 (by rw[d];omega) a7
 simp only[Z0Y,d]at y
 have l:=Z2L w b vs (vs.toList.take (o+off)++ys++vs.toList.drop (o+off+news.length)).toArray ty (0,0) q4
 generalize r:(vs.toList.take (o+off)++ys++vs.toList.drop (o+off+news.length))=nl at y l
 have aa:nl.length=vs.size:=by rw[<-r];simp only[Z0k,Z0t,Z0G,Z0X,d];omega
 have a4:∀i,nl[i]?=if o+off<=i/\i<o+off+news.length then ys[i-(o+off)]? else vs.toList[i]?:=by intro i;have:=A5E (cs:=vs.toList) (news:=ys) (off:=o+off) (i:=i) (by rw[d];simp;omega);rw[d]at this;rw[<-r];exact this
 have a5:A3p G f (.vec ty sz cs g' j) b:=⟨g,n,_,p,by rw[hd],rfl⟩
 have a9:=hi.step (w':=w.setRow b nl.toArray) (o':=.vec ty sz (A0e cs off news) g' (A0Q sz g off j)) f b hM (.inl a5) (.refl _) rfl (λ_=>rfl) (λ_ _=>⟨rfl,rfl⟩) (λ_ _ _ h=>.inl h) (λ_=>rfl)
  (λb' _ hne=>Z2o _ _ _ _ hne) (λi v h=>by rw[q8 i]at h;simp at h) (λo h=>by rw[q9]at h;simp at h)
  ⟨p0,λh' n' hm=>?_,λh1 n1 h2 n2 a1 a2 c1 c2 m1 m2=>p3 h1 n1 h2 n2 a1 a2 c1 c2 ((Z1o.1 m1).1) ((Z1o.1 m2).1)⟩
  (λb' ⟨h1,n1,a1,m1,e1,e2⟩=>.inr ⟨h1,n1,a1,(Z1o.1 m1).1,e1,e2⟩)
 .exact⟨_,_,rfl,y,a9,Ext.setRow _ _ _⟩
 .have a6:=(Z1o.1 hm).1;have s:h'=g\/n'*sz<=off:=by simpa using(Z1o.1 hm).2
  obtain⟨r0,r1,b',o',m,vs',s1,s2,s3,s4,s5,s6,s7,s8,s9⟩:=p2 h' n' a6;have q:(A0e cs off news).length=cs.length:=B4I Q0;refine⟨r0,by rw[q];exact r1,?_⟩;have ab:n'*sz<=m*sz:=Z0V _ s2;by_cases e:b'=b
  .subst e;have eo:(⟨b',o',none⟩:Addr)=⟨b',o,none⟩:=p3 h' n' g n _ _ _ _ a6 p s1 hd rfl;simp only[Z3J,Z2J,Z1A]at eo;subst eo;rw[q4]at s4;simp only[Z0b,Obj.cells.injEq,Z1A]at s4;subst s4;have t:=s6.length;simp only[Z0t,Z0G,Z0X]at t;have gl:∀i,i<n'*sz->((nl.drop o').take (n'*sz))[i]?=if off<=i/\i<off+news.length then ys[i-off]? else((vs.toList.drop o').take (n'*sz))[i]?:=by
    intro i hlt;rw[Z0B,Z0c hlt,Z0H,a4,Z0B,Z0c hlt,Z0H];by_cases hc:off<=i/\i<off+news.length
    .rw[Z0c Q0,Z0c hc];congr 1;omega
    .rw[Z0d Q0,Z0d hc]
   refine⟨b',o',m,nl.toArray,s1,s2,s3,l,by simp only[Z1r];omega,?_,?_,s8,s9⟩
   .refine A0v.of_get ?_ ?_
    .simp only[Z0t,Z0G,q];omega
    .intro i c z hc hz;(have hlt:i<n'*sz:=by have:=A0P hz;simp only[Z0t]at this;omega);have a0:=gl i hlt;rw[show(nl.toArray.toList:List Value)=nl from rfl]at hz;rw[a0]at hz;rw[Z0B,Z0c hlt]at hc;simp only[A0e]at hc;rw[A5E Q0]at hc;by_cases hcc:off<=i/\i<off+news.length
     .rw[Z0c hcc]at hz hc;exact a8.get2 hc hz
     .rw[Z0d hcc]at hz hc;exact s6.get2 (by rw[Z0B,Z0c hlt];exact hc) hz
   .intro u hu;obtain⟨i,k⟩:=List.mem_iff_getElem?.1 hu;(have hlt:i<n'*sz:=by have:=A0P k;simp only[Z0t]at this;omega);have a0:=gl i hlt;rw[show(nl.toArray.toList:List Value)=nl from rfl,a0]at k;by_cases hcc:off<=i/\i<off+news.length
    .rw[Z0c hcc]at k;exact a7 u (Z3S k)
    .rw[Z0d hcc]at k;exact s7 u (Z3S k)
  .have a3:n'*sz<=off:=by
    rcases s with h|h
    .subst h;rw[hd]at s1;simp only[Z0i,Z0b,Z3J]at s1;exact absurd s1.1.1.symm e
    .exact h
   refine⟨b',o',m,vs',s1,s2,s3,by rw[Z2o _ _ _ _ e];exact s4,s5,?_,s7,s8,s9⟩;(have:(A0e cs off news).take (n'*sz)=cs.take (n'*sz):=by simp only[A0e];rw[Z0F,Z1D ZCJ,Z1Y,Z1F a3]);rw[this];exact s6
def C2N{C}{G}{M}{w}(hi:Inv C G M w){f g off}{x}(hr:Rep G (.vptr f g off) x){t:TypeId}{ty:TypeId}{sz g' n}{cs}{hist}{v}{y}(hv:Rep G v y)
 (hM:M[f]?=some (.vec ty sz cs g' hist))(hn:hist.lookup g=some n)(hs:v.storable=true)(k:A1n C.P t=some v.cells.length)(c:off+v.cells.length<=n*sz):
 ∃w',(Instr.storeAt t x y).run C.P w=.ok () w'/\Inv C G (M.set f (.vec ty sz (A0e cs off v.cells) g' (A0Q sz g off hist))) w'/\Ext w w':=by
 obtain⟨e,i⟩:=hv.cells hs
 obtain⟨a,w',rfl,j,h2,h3⟩:=A7m hi hr e i hM hn c
 refine⟨w',?_,h2,h3⟩
 have b:=e.length
 have d:y.cells.size=v.cells.length:=by simpa using b
 simp only[Instr.storeAt,Instr.sureAddr,storeVar,Z0E,Z0O,Z0u,A1U k,d,ne_eq,Z3c,Z2f,j]
def A0q.fix(G:A0q)(nb:Nat)(vs:List Value):A0q:={G with st:=λb i=>if b=nb then vs[i]? else G.st b i}
def Inv.st_lt{C}{G}{M}{w}(hi:Inv C G M w){b i}{v}(h:G.st b i=some v):b<w.heap.size:=Z2I w ⟨b,i,none⟩ (hi.st b i v h)
def Inv.keep_lt{C}{G}{M}{w}(hi:Inv C G M w){b}{o}(h:G.keep b=some o):b<w.heap.size:=(Z1L.1 (hi.keep b o h)).1
def A0q.le_fix{C}{G}{M}{w}(hi:Inv C G M w)(vs:List Value):G.le (G.fix w.heap.size vs):=⟨Z0j _,λ_ _=>rfl,λb i v h=>by have:=hi.st_lt h;simp only[A0q.fix];rw[Z0d Q0];exact h,λ_ _ h=>h,λ_ _=>Z0j _,λ_ _ _ _=>rfl⟩
def A2N(w:World)(o:Obj)(b:Nat)(h:b<w.heap.size):(w.alloc o).heap[b]?=w.heap[b]?:=by show(w.heap.push o)[b]?=_;rw[Array.getElem?_push,Z0d Q0]
def B9f(w:World)(o:Obj)(b i:Nat)(h:b<w.heap.size):(w.alloc o).cell? ⟨b,i,none⟩=w.cell? ⟨b,i,none⟩:=by have:=A2N w o b h;simp[World.cell?,this]
def Inv.fix{C}{G}{M}{w}(hi:Inv C G M w)(c:Array Value)(t:TypeId)(vs:List Value)(l:∀(i:Nat) (v:Value),vs[i]?=some v->c[i]?=some v):Inv C (G.fix w.heap.size vs) M (w.alloc (.cells c t)):=by
 have d:=A0q.le_fix hi vs
 have f:∀b i v,(G.fix w.heap.size vs).st b i=some v->(b=w.heap.size/\vs[i]?=some v)\/(b<w.heap.size/\G.st b i=some v):=by
  intro b i v h;simp only[A0q.fix]at h;by_cases e:b=w.heap.size
  .rw[Z0c e]at h;exact .inl ⟨e,h⟩
  .rw[Z0d e]at h;exact .inr ⟨hi.st_lt h,h⟩
 have a:=λb (h:b<w.heap.size)=>A2N w (.cells c t) b h
 refine⟨hi.n,?_,?_,?_,?_,λg=>Rep.mono d _ _ (hi.gl g),hi.tab_le d⟩
 .intro b i v hv;rcases f b i v hv with⟨rfl,h⟩|⟨hlt,h⟩
  .have:=Z1Z w (.cells c t);rw[Z2U _ _ _ _ _ _ this];exact l i v h
  .rw[B9f _ _ _ _ hlt];exact hi.st b i v h
 .intro b o ho;rw[a b (hi.keep_lt ho)];exact hi.keep b o ho
 .intro k o hk;have ho:=hi.obj k o hk;refine ho.keeps d (by rw[hi.n];exact A0P hk) rfl ⟨rfl,rfl⟩ (λb hb i v hv=>?_) (λ_=>rfl) (λb hb=>a b (ho.owns_lt hb));have hlt:=ho.owns_lt hb;simp only[A0q.fix]at hv;rwa[Z0d Q0]at hv
 .intro i j x y b hx hy ox oy;have ob:∀k x b,A3p (G.fix w.heap.size vs) k x b<->A3p G k x b:=λk x b=>by cases x<;>exact Iff.rfl
  rw[ob]at ox oy;exact hi.apart i j x y b hx hy ox oy
def Ext.alloc(w:World)(o:Obj):Ext w (w.alloc o):=⟨rfl,rfl,rfl,Q1⟩
def Ext.drew(w:World):Ext w w.drew:=⟨rfl,rfl,rfl,Z0j _⟩
def A0S.fix{C}{G}{M}{w}(hi:Inv C G M w){cs}{vs}(hr:A0v G cs vs)(h1:∀v∈vs,v.oneCell'=true):A0S (G.fix w.heap.size vs) cs w.heap.size 0:=A0S.mk (A0v.mono (A0q.le_fix hi vs) _ _ hr) h1 (λj v hv=>by simp only[A0q.fix,Z1e,Z0P];exact hv)
def Inv.newBox{C}{G}{M}{w}(hi:Inv C G M w){cs}{vs}(t:TypeId)(hr:A0v G cs vs.toList)(h1:∀v∈vs.toList,v.oneCell'=true):∃G',Inv C G' (M++[.cells t cs]) (w.alloc (.cells vs t))/\G.le G'/\G'.blk M.length=w.heap.size/\M.length<G'.n:=by
 have hm:=hi.more w.heap.size (λ_=>(none,0)) 0
 have hk:(M++[A0m.gone])[M.length]?=some .gone:=ZBG
 have hb:(G.more w.heap.size (λ_=>(none,0)) 0).blk M.length=w.heap.size:=ZAV
 have c:∀i,(G.more w.heap.size (λ_=>(none,0)) 0).st w.heap.size i=none:=by
  intro i;cases h:G.st w.heap.size i with
  |none=>exact h
  |some v=>have:=hi.st_lt h;omega
 have a:(G.more w.heap.size (λ_=>(none,0)) 0).keep w.heap.size=none:=by
  cases h:G.keep w.heap.size with
  |none=>exact h
  |some v=>have:=hi.keep_lt h;omega
 have:=hm.step (w':=w.alloc (.cells vs t)) (o':=.cells t cs) M.length w.heap.size hk (.inr (Z0j _)) (.refl _) rfl (λ_=>rfl) (λ_ _=>⟨rfl,rfl⟩) (λ_ _ _ h=>.inl h) (λ_=>rfl)
  (λb hlt _=>A2N w _ b hlt) (λi v h=>by rw[c]at h;simp at h) (λo h=>by rw[a]at h;simp at h)
  ⟨vs,by rw[hb];exact Z1Z w _,A0v.mono (G.le_more _ _ _) _ _ hr,h1,by rw[hb];exact c,by rw[hb];exact a⟩ (λb h=>.inl (by simp only[A3p,hb]at h;exact h))
 refine⟨_,?_,G.le_more _ _ _,hb,ZAV⟩
 simpa using this
def Inv.newObj{C}{G}{M}{w}(hi:Inv C G M w)(o:Obj)(ao:A0m)(h:Nat->Option Addr×Nat)(t:Nat)
 (e:∀G',G.le G'->G'.blk M.length=w.heap.size->G'.hdr M.length=h->G'.top M.length=t->(∀i,G'.st w.heap.size i=none)->G'.keep w.heap.size=none->A5y G' (w.alloc o) M.length ao)
 (d:∀G' b,G'.blk M.length=w.heap.size->G'.hdr M.length=h->A3p G' M.length ao b->b=w.heap.size):
 ∃G',Inv C G' (M++[ao]) (w.alloc o)/\G.le G'/\G'.blk M.length=w.heap.size/\M.length<G'.n/\G'.hdr M.length=h/\G'.top M.length=t:=by
 have hm:=hi.more w.heap.size h t
 have hk:(M++[A0m.gone])[M.length]?=some .gone:=ZBG
 have hb:(G.more w.heap.size h t).blk M.length=w.heap.size:=ZAV
 have hh:(G.more w.heap.size h t).hdr M.length=h:=ZAV
 have ht:(G.more w.heap.size h t).top M.length=t:=ZAV
 have c:∀i,(G.more w.heap.size h t).st w.heap.size i=none:=by
  intro i;cases h:G.st w.heap.size i with
  |none=>exact h
  |some v=>have:=hi.st_lt h;omega
 have a:(G.more w.heap.size h t).keep w.heap.size=none:=by
  cases h:G.keep w.heap.size with
  |none=>exact h
  |some v=>have:=hi.keep_lt h;omega
 have:=hm.step (w':=w.alloc o) (o':=ao) M.length w.heap.size hk (.inr (Z0j _)) (.refl _) rfl (λ_=>rfl) (λ_ _=>⟨rfl,rfl⟩) (λ_ _ _ h=>.inl h) (λ_=>rfl)
  (λb hlt _=>A2N w _ b hlt) (λi v h=>by rw[c]at h;simp at h) (λo h=>by rw[a]at h;simp at h)
  (e _ (G.le_more _ _ _) hb hh ht c a) (λb h=>.inl (d _ b hb hh h))
 refine⟨_,?_,G.le_more _ _ _,hb,ZAV,hh,ht⟩
 simpa using this
def A9o:AV->Option (List (List AV)×Own)
 |.val (.slice none 0 0)=>some ([],.full)
 |.list _ rows own=>some (rows,own)
 |_=>none
def B3f(sz:Nat):AV->Prop
 |.list s _ _=>s=sz
 |_=>True
def B8C{C}{G}{M}{w}(hi:Inv C G M w){v}{x}{sz}{rows}{own}(hr:Rep G v x)(h:A9o v=some (rows,own))(hs:B3f sz v):∃base cap,x=.slice base rows.length cap/\rows.length<=cap/\cap<=maxLen/\(match base with|none=>rows=[]/\cap=0|some a=>(rows≠[]->a.spot=none)/\A0F G sz rows a.block a.off)/\A5v G own rows.length base cap:=by
 unfold A9o at h
 split at h
 .simp only[Z0b,Z0i]at h;obtain⟨rfl,rfl⟩:=h;simp only[Rep]at hr;subst hr;exact⟨none,0,rfl,Z0j _,by simp[maxLen],⟨rfl,rfl⟩,rfl⟩
 .simp only[Z0b,Z0i]at h;obtain⟨rfl,rfl⟩:=h;simp only[B3f]at hs;subst hs;simp only[Rep]at hr;exact hr
 .simp at h
def B3t{C:Ctx}{G:A0q}{M:Mem}{w:World}(hi:Inv C G M w){base:Option Addr}{sz cap:Nat}{rows:List (List AV)}
 (h:match base with|none=>rows=[]/\cap=0|some a=>(rows≠[]->a.spot=none)/\A0F G sz rows a.block a.off):
 ∃vs:List Value,A0v G rows.flatten vs/\vs.length=rows.length*sz/\(∀v∈vs,v.oneCell'=true)/\(∀r∈rows,r.length=sz)/\∀w',w'.heap=w.heap->(Builtin.firstCells sz rows.length (.slice base rows.length cap)).run C.P w'=.ok vs.toArray w':=by
 cases base with
 |none=>
  obtain⟨rfl,_⟩:=h
  exact⟨[],ZCT,Q1,Q1,Q1,λw' _=>by simp[Builtin.firstCells]⟩
 |some a=>
  obtain⟨b,h⟩:=h
  obtain⟨hm,hl⟩:=A0F.flat h
  obtain⟨vs,h1,h2,h3,h4⟩:=hm.vals
  refine⟨vs,h1,Q0,h3,h.sizes,λw' hw=>?_⟩
  refine Z2l (P:=C.P) w' sz rows.length a rows.length cap vs Q0 (λj v hv=>?_)
  have c:rows≠[]:=by intro e;subst e;have:=A0P hv;simp at h2;subst h2;simp at this
  have b:=b c
  have ea:a=⟨a.block,a.off,none⟩:=by cases a;simp_all
  rw[ea,Z1k]
  have:=hi.st _ _ _ (h4 j v hv)
  simpa[World.cell?,hw]using this
def A4j(P:Program)(u:TypeId):Prop:=(∃e2,P.underlying u=some (.slice e2))\/P.underlying u=some .string
section
variable {P:Program}
def B0b{t u e:TypeId}{ty:TypeId}{sz:Nat}{s x:Value}{base:Option Addr}{n cap:Nat}{w:World}(ht:P.underlying t=some (.slice e))(c:A1n P e=some sz)
 (hu:A4j P u)(hx:∀w,(Builtin.lenOf x).run P w=.ok 0 w)
 (b:(Builtin.firstCells sz 0 x).run P w=.ok #[] w)(a:n<=cap):(Builtin.append_ #[t,u] ty #[.slice base n cap,x]).run P w=.ok (.slice base n cap) w:=by
 obtain⟨e2,hu⟩|hu:=hu
 all_goals cases base<;>simp[Builtin.append_,Z0q ht,Z0q hu,A1U c,hx,b,a,storeCells]
def C2Y{t u e:TypeId}{ty:TypeId}{sz}{x}{g n cap m}{w}(ht:P.underlying t=some (.slice e))(f:A1n P e=some sz)
 (hu:A4j P u)(hx:∀w,(Builtin.lenOf x).run P w=.ok m w)
 {news}(d:(Builtin.firstCells sz m x).run P w=.ok news.toArray w)(c:n+m<=cap){cur}{ct:TypeId}(hg:w.heap[g]?=some (.cells cur ct (0,0)))
 (b:n*sz+news.length<=cur.size)(h1:∀v∈news,v.oneCell'=true):
 (Builtin.append_ #[t,u] ty #[.slice (some ⟨g,0,none⟩) n cap,x]).run P w=.ok (.slice (some ⟨g,0,none⟩) (n+m) cap) (w.setRow g (cur.toList.take (n*sz)++news++cur.toList.drop (n*sz+news.length)).toArray):=by
 obtain⟨e2,hu⟩|hu:=hu
 all_goals
  have a:=Z2B P g (n*sz) ct news 0 cur w hg (by simpa using b) h1
  simp only[Z0Y]at a
  simp[Builtin.append_,Z0q ht,Z0q hu,A1U f,hx,d,c,a,Z1k]
def B0k{t u e:TypeId}{ty:TypeId}{i:TypeInfo}{z x:Value}{base:Option Addr}{n cap m:Nat}{w:World}(ht:P.underlying t=some (.slice e))(hi:P.info? e=some i)(hz:i.zero=some z)
 (hu:A4j P u)(hx:∀w,(Builtin.lenOf x).run P w=.ok m w)
 {news olds:List Value}(c:(Builtin.firstCells i.size m x).run P w.drew=.ok news.toArray w.drew)(f:(Builtin.firstCells i.size n (.slice base n cap)).run P w.drew=.ok olds.toArray w.drew)
 (d:cap<n+m)(hb:(n+m)*i.bytes<=140737488355328)(g:n+m<=maxLen):
 (Builtin.append_ #[t,u] ty #[.slice base n cap,x]).run P w=.ok (.slice (some ⟨w.heap.size,0,none⟩) (n+m) (grownCap w (n+m) cap e)) (w.drew.alloc (.cells (olds.toArray++news.toArray++Builtin.zeroCells z.cells (grownCap w (n+m) cap e-(n+m))) e)):=by
 have hn:¬(n+m<=cap):=Q0
 have b:¬(9223372036854775807<((n:Int)+(m:Int))):=by simp only[maxLen]at g;omega
 have j:=growslice_fits d hb
 have a:¬(281474976710656<Builtin.nextslicecap (n+m) cap*i.bytes):=Q0
 obtain⟨e2,hu⟩|hu:=hu
 all_goals simp[Builtin.append_,Z0q ht,Z0q hu,sizeOf,typeInfo,zeroValue,hi,hz,hx,hn,b,a,Question.forced,c,f,newRow,grownCap]
 all_goals (congr 2;apply Z1O;simp)
end
def A4g(P:Program)(e:TypeId)(sz bytes:Nat):Prop:=∃i z,P.info? e=some i/\i.zero=some z/\i.size=sz/\i.bytes=bytes/\z.cells.size=sz/\0<bytes
def A9N(hint:Bool)(sz:Nat)(s x:AV)(M:Mem):Option (AV×Mem):=
 match A9o s,A9o x with
 |some (r1,own),some (r2,_)=>
  match own with
  |.fam f=>match M[f]? with
   |some (.fam m sz')=>if m=r1.length/\sz'=sz then some (.list sz (r1++r2) (.fam f),M.set f (.fam (r1.length+r2.length) sz))else none
   |_=>none
  |.full=>if hint then some (.list sz (r1++r2) (.fam M.length),M++[.fam (r1.length+r2.length) sz])else some (.list sz (r1++r2) .no,M)
  |.no=>none
 |_,_=>none
def A7n(s:AV):Nat:=match A9o s with|some (r,_)=>r.length|none=>0
def A6m(P:Program)(base:Option Addr)(n c:Nat)(w:World):(Builtin.lenOf (.slice base n c)).run P w=.ok n w:=rfl
def A0q.grow(G:A0q)(f n:Nat)(h:Option Addr×Nat)(nb o:Nat)(vs:List Value):A0q:={G with st:=λb i=>if b=nb/\o<=i/\i<o+vs.length then vs[i-o]? else G.st b i,hdr:=λj=>if j=f thenλk=>if k=n then h else G.hdr f k else G.hdr j,top:=λj=>if j=f then n else G.top j}
def A0q.le_grow{G:A0q}{f n:Nat}{h:Option Addr×Nat}{nb o:Nat}{vs:List Value}(hn:G.top f<n\/(G.top f=n/\G.hdr f n=h))(a:∀i v,o<=i->i<o+vs.length->G.st nb i=some v->vs[i-o]?=some v):G.le (G.grow f n h nb o vs):=by
 refine⟨Z0j _,λ_ _=>rfl,λb i v hv=>?_,λ_ _ h=>h,λj _=>?_,λj _ k hk=>?_⟩
 .simp only[A0q.grow];split
  .rename_i e;obtain⟨rfl,h1,h2⟩:=e;exact a i v h1 h2 hv
  .exact hv
 .simp only[A0q.grow];by_cases e:j=f
  .subst e;rw[Z0c rfl];omega
  .rw[Z0d e];exact Z0j _
 .simp only[A0q.grow];by_cases e:j=f
  .subst e;rw[Z0c rfl];by_cases e2:k=n
   .subst e2;rw[Z0c rfl];rcases hn with h1|⟨_,h1⟩
    .omega
    .exact h1.symm
   .rw[Z0d e2]
  .rw[Z0d e]
abbrev B7y(G:A0q)(sz:Nat)(rows:List (List AV))(base:Option Addr)(cap:Nat):Prop:=match base with|none=>rows=[]/\cap=0|some a=>(rows≠[]->a.spot=none)/\A0F G sz rows a.block a.off
def A5C{G}{sz}{rows}{own}{base}{n cap}(hn:n=rows.length)(h1:rows.length<=cap)(h2:cap<=maxLen)(h3:B7y G sz rows base cap)(h4:A5v G own rows.length base cap):Rep G (.list sz rows own) (.slice base n cap):=by
 subst hn
 simp only[Rep]
 exact⟨base,cap,rfl,h1,h2,h3,h4⟩
def B7y.mono{G G'}(h:G.le G'){sz}{rows}{base}{cap}(k:B7y G sz rows base cap):B7y G' sz rows base cap:=by
 cases base with
 |none=>exact k
 |some a=>exact⟨k.1,A0F.mono h sz rows _ _ k.2⟩
def Inv.adopt{C}{G}{M}{w}(hi:Inv C G M w){n sz}{base}(hn:n<=maxLen):∃G',Inv C G' (M++[.fam n sz]) w/\G.le G'/\M.length<G'.n/\G'.top M.length=n/\G'.hdr M.length n=(base,n):=by
 have hm:=hi.more w.heap.size (λ_=>(base,n)) n
 have hk:(M++[A0m.gone])[M.length]?=some .gone:=ZBG
 have e1:(G.more w.heap.size (λ_=>(base,n)) n).hdr M.length n=(base,n):=ZAV
 have e2:(G.more w.heap.size (λ_=>(base,n)) n).top M.length=n:=ZAV
 have hs:=hm.step (w':=w) (o':=.fam n sz) M.length w.heap.size hk (.inr (Z0j _)) (.refl _) rfl (λ_=>rfl) (λ_ _=>⟨rfl,rfl⟩) (λ_ _ _ h=>.inl h) (λ_=>rfl) (λ_ _ _=>rfl) (λi v h=>hi.st _ _ _ h) (λo h=>by have:=hi.keep_lt (b:=w.heap.size) (o:=o) h;omega) ⟨e2,by rw[e1];exact Z0j _,by rw[e1];exact hn,λh=>by rw[e1]at h;simp at h⟩ (λb h=>by simp[A3p,e1]at h)
 exact⟨_,by simpa using hs,G.le_more _ _ _,ZAV,e2,e1⟩
def A0F.grown{G G'}(b:G.le G'){sz nb o}{rows}{vs}(hr:A0v G rows.flatten vs)(h1:∀v∈vs,v.oneCell'=true)(c:∀r∈rows,r.length=sz) (a:∀(i:Nat) (v:Value),vs[i]?=some v->G'.st nb (o+i)=some v):A0F G' sz rows nb o:=A0F.mk c (A0S.mk (A0v.mono b _ _ hr) h1 a)
def C2J{C}{G}{M}{w}(hi:Inv C G M w){s x}{sv xv}(hs:Rep G s sv)(hx:Rep G x xv){sz bytes}(bx:B3f sz s)(c4:B3f sz x)
 {hint}{r}{M'}(h:A9N hint sz s x M=some (r,M')){t u e:TypeId}(ty:TypeId)(ht:A1b C.P t=some e)(hu:A4j C.P u)(he:A4g C.P e sz bytes)
 (hb:(A7n s+A7n x)*bytes<=140737488355328):
 ∃v w' G',(Builtin.append_ #[t,u] ty #[sv,xv]).run C.P w=.ok v w'/\G.le G'/\Inv C G' M' w'/\Rep G' r v/\Ext w w':=by
 have ht:=A2q ht
 obtain⟨i,z,ag,hz,af,br,bt,ba⟩:=he
 have b3:A1n C.P e=some sz:=by simp[A1n,ag,af]
 unfold A9N at h
 split at h
 case h_2=>simp at h
 rename_i r1 own r2 own2 e1 e2
 obtain⟨base,cap,rfl,b7,ae,ar,ad⟩:=B8C hi hs e1 bx
 obtain⟨a4,a8,rfl,c6,c7,bz,c8⟩:=B8C hi hx e2 c4
 obtain⟨y,bs,aa,bb,bm,bo⟩:=B3t hi (cap:=cap) ar
 obtain⟨c,bq,a0,al,bn,bd⟩:=B3t hi (cap:=a8) bz
 have c3:(r1.length+r2.length)*bytes<=140737488355328:=by simpa[A7n,e1,e2]using hb
 have bf:r1.length+r2.length<=maxLen:=by have:r1.length+r2.length<=(r1.length+r2.length)*bytes:=Z2i _ ba;simp only[maxLen];omega
 have ao:A0v G (r1++r2).flatten (y++c):=by rw[List.flatten_append];exact bs.append bq
 have a3:∀v∈y++c,v.oneCell'=true:=λv hv=>by
  rcases Z0N.1 hv with h|h
  .exact bb v h
  .exact al v h
 have ab:∀q∈r1++r2,q.length=sz:=λv hv=>by
  rcases Z0N.1 hv with h|h
  .exact bm v h
  .exact bn v h
 have aw:(y++c).length=(r1.length+r2.length)*sz:=by rw[Z0k,aa,a0,Z0R]
 by_cases hm:r2.length=0
 ·-- nothing is appended
  have bl:r2=[]:=Z0w hm;subst bl;have c0:(Builtin.firstCells sz 0 (.slice a4 ([]:List (List AV)).length a8)).run C.P w=.ok #[] w:=by have:=bd w rfl;have hv:c=[]:=Z0w (by simpa using a0);subst hv;exact this
  have k:=B0b (P:=C.P) (ty:=ty) (s:=.bool true) (base:=base) (n:=r1.length) (cap:=cap) (x:=.slice a4 ([]:List (List AV)).length a8) ht b3 hu (λw=>A6m _ _ _ _ _) c0 b7;simp only[Z1b,Z1p,Z0Y]at h;cases own with
  |no=>simp at h
  |full=>
   simp only[A5v]at ad;subst ad;simp only at h;split at h
   .simp only[Z0b,Z0i]at h;obtain⟨rfl,rfl⟩:=h;obtain⟨G',p,l,hlt,q1,q2⟩:=hi.adopt (n:=r1.length) (sz:=sz) (base:=base) ae;exact⟨_,w,G',k,l,p,A5C rfl (Z0j _) ae (B7y.mono l ar) ⟨hlt,Q0,q2⟩,.refl _⟩
   .simp only[Z0b,Z0i]at h;obtain⟨rfl,rfl⟩:=h;exact⟨_,w,G,k,.refl _,hi,A5C rfl b7 ae ar trivial,.refl _⟩
  |fam f=>
   simp only at h;split at h
   .rename_i m sz' hf;split at h
    .rename_i hcond;obtain⟨rfl,rfl⟩:=hcond;simp only[Z0b,Z0i]at h;obtain⟨rfl,rfl⟩:=h;(have hM:M.set f (.fam r1.length sz')=M:=by have hlt:=A0P hf;rw[Z0g hlt]at hf;have:=Z1a hf;rw[<-this];exact Z3P hlt);rw[hM];exact⟨_,w,G,k,.refl _,hi,A5C rfl b7 ae ar ad,.refl _⟩
    .simp at h
   .simp at h
 .by_cases hroom:r1.length+r2.length<=cap
  ·-- in place
   cases own with
   |no=>simp at h
   |full=>simp only[A5v]at ad;omega
   |fam f=>
    simp only at h;split at h;(case h_2=>simp at h);rename_i m sz' hf;split at h;(case isFalse=>simp at h);rename_i hcond;obtain⟨rfl,rfl⟩:=hcond;simp only[Z0b,Z0i]at h;obtain⟨rfl,rfl⟩:=h;obtain⟨ai,c5,be⟩:=ad;obtain⟨a9,ac,bp,bh⟩:=hi.obj f _ hf;rw[be]at ac bp bh;obtain⟨g,a2,ct,am,hg,b2,ak,ap⟩:=bh (by show r1.length<cap;omega);simp only at am b2;subst am;(have b8:r1.length*sz'+c.length<=a2.size:=by rw[a0,<-Z0R];exact Z0J (Z0V _ hroom) b2);have k:=C2Y (P:=C.P) (ty:=ty) (g:=g) (n:=r1.length) (cap:=cap) (x:=.slice a4 r2.length a8) (m:=r2.length) ht b3 hu (λw=>A6m _ _ _ _ _) (bd w rfl) hroom hg b8 al;generalize b9:w.setRow g (a2.toList.take (r1.length*sz')++c++a2.toList.drop (r1.length*sz'+c.length)).toArray=w' at k;(have aj:w'.heap[g]?=some (.cells (a2.toList.take (r1.length*sz')++c++a2.toList.drop (r1.length*sz'+c.length)).toArray ct (0,0)):=by rw[<-b9];exact Z2L w g a2 _ ct _ hg);(have bu:(a2.toList.take (r1.length*sz')).length=r1.length*sz':=by rw[Z0t];simp;omega);(have an:∀i:Nat,w'.cell? ⟨g,i,none⟩=(a2.toList.take (r1.length*sz')++c++a2.toList.drop (r1.length*sz'+c.length))[i]?:=by intro i;rw[Z2U _ _ _ _ _ _ aj];simp);(have bk:∀i:Nat,i<r1.length*sz'->w'.cell? ⟨g,i,none⟩=w.cell? ⟨g,i,none⟩:=by intro i p;rw[an,Z2U _ _ _ _ _ _ hg,Z0F,Z0o Q0,Z0B,Z0c p];simp);(have bc:∀i v,r1.length*sz'<=i->c[i-r1.length*sz']?=some v->w'.cell? ⟨g,i,none⟩=some v:=by intro i v p hv;have hlt:=A0P hv;rw[an,Z0F,Z1t Q0,bu,Z0o hlt];exact hv);have b1:∀i v,G.st g i=some v->i<r1.length*sz':=by
     intro i v hv;rcases Z4q i (r1.length*sz')with h|h
     .exact h
     .rw[ak i h]at hv;simp at hv
    have l:G.le (G.grow f (r1.length+r2.length) (some ⟨g,0,none⟩,cap) g (r1.length*sz') c):=A0q.le_grow (.inl Q0) (λi v h1 h2 hv=>by have:=b1 i v hv;omega);(have d:(G.grow f (r1.length+r2.length) (some ⟨g,0,none⟩,cap) g (r1.length*sz') c).hdr f (r1.length+r2.length)=(some ⟨g,0,none⟩,cap):=by simp[A0q.grow]);(have bv:A3p G f (.fam r1.length sz') g:=by simp only[A3p,be];exact⟨Q0,_,rfl,rfl⟩);have p:=hi.step (w':=w') (o':=.fam (r1.length+r2.length) sz') f g hf (.inl bv) l rfl (λ_=>rfl) (λj hj=>by simp[A0q.grow,hj])
     (λb i v hv=>by
      simp only[A0q.grow]at hv;split at hv
      .rename_i hc;obtain⟨rfl,c1,c2⟩:=hc;exact .inr ⟨rfl,bc i v c1 hv⟩
      .exact .inl hv)
     (λ_=>rfl) (λb _ hne=>by rw[<-b9];exact Z2o _ _ _ _ hne) (λi v hv=>by rw[bk i (b1 i v hv)];exact hi.st _ _ _ hv) (λo ho=>by rw[ap]at ho;simp at ho)
     ⟨by
      simp[A0q.grow],by rw[d];exact hroom,by rw[d];exact ae,λhlt=>⟨g,_,ct,by rw[d],aj,by
      rw[d];simp only[Z1r,Z0k,Z0t,Z0G,Z0X];omega,λi p=>by simp only[A0q.grow];rw[Z0d (by rw[a0,<-Z0R];omega)];exact ak i (Z0J (Z0V _ (Nat.le_add_right _ _)) p),ap⟩⟩
     (λb hb=>.inl (by simp only[A3p,d,Z0b]at hb;obtain⟨_,a,rfl,rfl⟩:=hb;rfl))
    refine⟨_,w',_,k,l,p,?_,by rw[<-b9];exact Ext.setRow _ _ _⟩;refine A5C Q1 (by simpa using hroom) ae ⟨λ_=>rfl,?_⟩ ⟨by exact ai,ZBA,by simpa using d⟩;refine A0F.grown l ao a3 ab (λi v hv=>?_);simp only[Z0P,A0q.grow];by_cases hlt:i<y.length
    .rw[Z0o hlt]at hv;rw[Z0d Q0];obtain⟨_,ah⟩:=ar;obtain⟨us,q1,q2,q3,q4⟩:=(A0F.flat ah).1.vals;(have bw:us=y:=by have b6:=bo w rfl;have bi:=Z2l (P:=C.P) w sz' r1.length ⟨g,0,none⟩ r1.length cap us (by rw[q2,(A0F.flat ah).2]) (λj v hv=>by rw[Z1k];exact hi.st _ _ _ (q4 j v hv));rw[bi]at b6;simp at b6;exact b6);subst bw;simpa using q4 i v hv
    .rw[Z1t Q0]at hv;have:=A0P hv;rw[Z0c ⟨trivial,Q0,Q0⟩,<-aa];exact hv
  ·-- a new block
   have k:=B0k (P:=C.P) (ty:=ty) (base:=base) (n:=r1.length) (cap:=cap) (x:=.slice a4 r2.length a8) (m:=r2.length) (w:=w) (i:=i) (z:=z) (e:=e) (t:=t) (u:=u) (news:=c) (olds:=y) ht ag hz hu (λw=>A6m _ _ _ _ _) (by rw[af];exact bd w.drew rfl) (by rw[af];exact bo w.drew rfl) Q0 (by rw[br];exact c3) bf;have ax:=Z3F w (r1.length+r2.length) cap e;have b0:=Z2P w (r1.length+r2.length) cap e bf;generalize grownCap w (r1.length+r2.length) cap e=nc at k ax b0;generalize b5:y.toArray++c.toArray++Builtin.zeroCells z.cells (nc-(r1.length+r2.length))=a5 at k;(have az:a5.size=nc*sz:=by rw[<-b5];simp only[Z3C,Z1r,Z4b,bt,aa,a0,<-Z0R];congr 1;omega);(have a7:∀(i:Nat) (v:Value),(y++c)[i]?=some v->a5[i]?=some v:=by intro i v hv;have hlt:=A0P hv;rw[<-b5,Z4j (by simp at hlt|-;omega),<-hv];simp);have av:Inv C G M w.drew:=hi.world rfl;have au:Ext w (w.drew.alloc (.cells a5 e)):=(Ext.drew w).trans (Ext.alloc _ _);have a1:=Z1Z w.drew (.cells a5 e);have a6:∀(G1:A0q) (M1:Mem) (f:Nat) (o:A0m),Inv C G1 M1 w.drew->G.le G1->M1[f]?=some o->f<G1.n->(G1.top f<r1.length+r2.length\/(∀h,G1.top f=r1.length+r2.length/\G1.hdr f (r1.length+r2.length)=h->True)/\G1.top f<r1.length+r2.length)->
    ∃G',G.le G'/\Inv C G' (M1.set f (.fam (r1.length+r2.length) sz)) (w.drew.alloc (.cells a5 e))/\Rep G' (.list sz (r1++r2) (.fam f)) (.slice (some ⟨w.heap.size,0,none⟩) (r1.length+r2.length) nc):=by
    intro G1 M1 f o ay ac hf ai a9
    have a9:G1.top f<r1.length+r2.length:=by rcases a9 with h|h;exact h;exact h.2
    have l:G1.le (G1.grow f (r1.length+r2.length) (some ⟨w.heap.size,0,none⟩,nc) w.heap.size 0 (y++c)):=A0q.le_grow (.inl a9) (λi v _ _ hv=>by have:=ay.st_lt hv;simp at this)
    have d:(G1.grow f (r1.length+r2.length) (some ⟨w.heap.size,0,none⟩,nc) w.heap.size 0 (y++c)).hdr f (r1.length+r2.length)=(some ⟨w.heap.size,0,none⟩,nc):=ZBA
    have b4:∀i,G1.st w.heap.size i=none:=by
     intro i;cases h:G1.st w.heap.size i with
     |none=>rfl
     |some v=>have:=ay.st_lt h;simp at this
    have bj:∀o,G1.keep w.heap.size≠some o:=by intro o h;have:=ay.keep_lt h;simp at this
    have p:=ay.step (w':=w.drew.alloc (.cells a5 e)) (o':=.fam (r1.length+r2.length) sz) f w.heap.size hf (.inr Q1) l rfl (λ_=>rfl) (λj hj=>by simp[A0q.grow,hj])
     (λb i v hv=>by
      simp only[A0q.grow]at hv;split at hv
      .rename_i hc;obtain⟨rfl,c1,c2⟩:=hc;refine .inr ⟨rfl,?_⟩;rw[Z2U _ _ _ _ _ _ (by simpa using a1)];exact a7 i v ZBQ
      .exact .inl hv)
     (λ_=>rfl) (λb hlt _=>A2N w.drew _ b (by simpa using hlt)) (λi v hv=>by rw[b4]at hv;simp at hv) bj
     ⟨by
      simp[A0q.grow],by rw[d];exact ax,by rw[d];exact b0,λhlt=>⟨w.heap.size,a5,e,by rw[d],by simpa using a1,by rw[d,az];exact Z0j _,λi p=>by
      simp only[A0q.grow];rw[Z0d (by rw[aw];omega)];exact b4 i,by
      cases h:G1.keep w.heap.size with
      |none=>exact h
      |some o=>exact absurd h (bj o)⟩⟩
     (λb hb=>.inl (by simp only[A3p,d,Z0b]at hb;obtain⟨_,a,rfl,rfl⟩:=hb;rfl))
    refine⟨_,ac.trans l,p,?_⟩
    refine A5C Q1 (by simpa using ax) b0 ⟨λ_=>rfl,?_⟩ ⟨ai,ZBA,by simpa using d⟩
    refine A0F.grown (ac.trans l) ao a3 ab (λi v hv=>?_)
    have:=A0P hv
    simp only[Z0P,A0q.grow]
    rw[Z0c ⟨trivial,Q0,Q0⟩]
    simpa using hv
   cases own with
   |no=>simp at h
   |full=>
    simp only at h;split at h
    .simp only[Z0b,Z0i]at h;obtain⟨rfl,rfl⟩:=h;have bg:=av.more 0 (λ_=>(none,0)) 0;obtain⟨G',l,p,aq⟩:=a6 _ (M++[.gone]) M.length .gone bg (G.le_more _ _ _) Q1 ZAV (.inl (by simp[A0q.more,hi.n];omega));exact⟨_,_,G',k,l,by simpa using p,aq,au⟩
    .simp only[Z0b,Z0i]at h;obtain⟨rfl,rfl⟩:=h;have l:=A0q.le_fix av (y++c);refine⟨_,_,_,k,l,av.fix a5 e (y++c) a7,?_,au⟩;refine A5C Q1 (by simpa using ax) b0 ⟨λ_=>rfl,?_⟩ trivial;refine A0F.grown l ao a3 ab (λi v hv=>?_);simp only[Z0P,A0q.fix];rw[Z0c (show w.heap.size=w.drew.heap.size from rfl)];exact hv
   |fam f=>simp only at h;split at h;(case h_2=>simp at h);rename_i m sz' hf;split at h;(case isFalse=>simp at h);rename_i hcond;obtain⟨rfl,rfl⟩:=hcond;simp only[Z0b,Z0i]at h;obtain⟨rfl,rfl⟩:=h;obtain⟨ai,c5,be⟩:=ad;obtain⟨a9,_⟩:=hi.obj f _ hf;obtain⟨G',l,p,aq⟩:=a6 G M f _ av (.refl _) hf ai (.inl Q0);exact⟨_,_,G',k,l,p,aq,au⟩
def C0e{P}{t u e:TypeId}{ty:TypeId}{sz}{x}{g o n cap m}{w}(ht:P.underlying t=some (.slice e))(f:A1n P e=some sz)
 (hu:A4j P u)(hx:∀w,(Builtin.lenOf x).run P w=.ok m w)
 {news}(d:(Builtin.firstCells sz m x).run P w=.ok news.toArray w)(c:n+m<=cap){cur}{ct:TypeId}(hg:w.heap[g]?=some (.cells cur ct (0,0)))
 (b:o+n*sz+news.length<=cur.size)(h1:∀v∈news,v.oneCell'=true):
 (Builtin.append_ #[t,u] ty #[.slice (some ⟨g,o,none⟩) n cap,x]).run P w=.ok (.slice (some ⟨g,o,none⟩) (n+m) cap) (w.setRow g (cur.toList.take (o+n*sz)++news++cur.toList.drop (o+n*sz+news.length)).toArray):=by
 obtain⟨e2,hu⟩|hu:=hu
 all_goals
  have a:=Z2B P g (o+n*sz) ct news 0 cur w hg (by simpa using b) h1
  simp only[Z0Y]at a
  simp[Builtin.append_,Z0q ht,Z0q hu,A1U f,hx,d,c,a,Z1k]
def A0D(M:Mem)(sz:Nat):AV->Option (List AV×Nat)
 |.val (.slice none 0 0)=>some ([],0)
 |.val (.string s)=>if sz=1 then some (s.data.toList.map λb=>.val (.int .u8 b.toNat),s.size)else none
 |.list s rows _=>if s=sz then some (rows.flatten,rows.length)else none
 |.vref f h s lo len=>match M[f]? with
  |some (.vec _ s' cs _ hist)=>match hist.lookup h with
   |some n=>if s=sz/\s'=sz/\lo+len<=n then some ((cs.drop (lo*sz)).take (len*sz),len)else none
   |none=>none
  |_=>none
 |_=>none
def B3n{P}(s:ByteArray)(w:World):(Builtin.firstCells 1 s.size (.string s)).run P w=.ok (s.data.map λb=>.int .u8 b.toNat) w:=by
 have e:s.extract 0 s.size=s:=ZBG
 simp[Builtin.firstCells,e]
def A7M{C}{G}{M}{w}(hi:Inv C G M w){x}{xv}{sz m}{news}(hr:Rep G x xv)(h:A0D M sz x=some (news,m)):∃vs:List Value,A0v G news vs/\vs.length=m*sz/\(∀v∈vs,v.oneCell'=true)/\(∀w,(Builtin.lenOf xv).run C.P w=.ok m w)/\∀w',w'.heap=w.heap->(Builtin.firstCells sz m xv).run C.P w'=.ok vs.toArray w':=by
 unfold A0D at h
 split at h
 .simp only[Z0b,Z0i]at h;obtain⟨rfl,rfl⟩:=h;simp only[Rep]at hr;subst hr;exact⟨[],ZCT,Q1,Q1,λw=>A6m _ _ _ _ _,λw' _=>by simp[Builtin.firstCells]⟩
 .rename_i s;split at h
  .rename_i hs;subst hs;simp only[Z0b,Z0i]at h;obtain⟨rfl,rfl⟩:=h;simp only[Rep]at hr;subst hr;refine⟨s.data.toList.map λb=>.int .u8 b.toNat,?_,by simp only[Z0W,Z3G];rfl,?_,λw=>rfl,λw' _=>?_⟩
   .refine A0v.of_get Q1 ?_;intro i c y h1 h2;simp only[Z1i,Z0l]at h1 h2;obtain⟨a,ha,rfl⟩:=h1;obtain⟨b,hb,rfl⟩:=h2;rw[ha]at hb;simp only[Z0b]at hb;subst hb;simp[Rep]
   .intro v hv;simp only[Z0C]at hv;obtain⟨_,_,rfl⟩:=hv;rfl
   .rw[B3n];congr 1;apply Z1O;simp
  .simp at h
 .rename_i s rows own;split at h
  .rename_i hs;subst hs;simp only[Z0b,Z0i]at h;obtain⟨rfl,rfl⟩:=h;simp only[Rep]at hr;obtain⟨base,cap,rfl,_,_,hb,_⟩:=hr;obtain⟨vs,h1,h2,h3,_,h5⟩:=B3t hi (cap:=cap) hb;exact⟨vs,h1,h2,h3,λw=>A6m _ _ _ _ _,h5⟩
  .simp at h
 .rename_i f h' s lo len;split at h
  .rename_i ty s' cs g hist hM;split at h
   .rename_i n hn;split at h
    .rename_i hc;obtain⟨rfl,rfl,e⟩:=hc;simp only[Z0b,Z0i]at h;obtain⟨rfl,rfl⟩:=h;simp only[Rep]at hr;obtain⟨hf,hg,a,a',cap,hd,u,r,rfl,p,_,q⟩:=hr;obtain⟨_,p2,_⟩:=hi.obj f _ hM;obtain⟨_,q0,b,o,t,vs,q1,q2,q3,q4,q5,q6,q7,q8,q9⟩:=p2 h' n (A2S hn);rw[hd]at q1;simp only[Z0i,Z0b]at q1;obtain⟨rfl,rfl⟩:=q1;(have e1:(((vs.toList.drop o).take (n*s')).drop (lo*s')).take (len*s')=(vs.toList.drop (o+lo*s')).take (len*s'):=by rw[Z2K,Z2b,Z1Y,Z1F];(have:lo*s'+len*s'<=n*s':=by rw[<-Z0R];exact Z0V _ e);omega);(have e2:((cs.take (n*s')).drop (lo*s')).take (len*s')=(cs.drop (lo*s')).take (len*s'):=by rw[Z2K,Z1Y,Z1F];(have:lo*s'+len*s'<=n*s':=by rw[<-Z0R];exact Z0V _ e);omega);have hR:=(q6.drop (lo*s')).take (len*s');rw[e1,e2]at hR;(have d:((vs.toList.drop (o+lo*s')).take (len*s')).length=len*s':=by simp only[Z0t,Z0G,Z0X];(have h1:lo*s'+len*s'<=cap*s':=by rw[<-Z0R];exact Z0V _ p);omega);(have k:∀v∈(vs.toList.drop (o+lo*s')).take (len*s'),v.oneCell'=true:=by rw[<-e1];intro v hv;exact q7 v (Z1w (Z1x hv)));refine⟨_,hR,d,k,λw=>A6m _ _ _ _ _,λw' hw=>?_⟩;by_cases hl0:len=0
     .subst hl0;refine Z2l (P:=C.P) w' s' 0 a' 0 (cap-lo) _ Q1 (λj v hv=>by simp at hv)
     .have ha:=q Q0;refine Z2l (P:=C.P) w' s' len a' len (cap-lo) _ (by rw[d]) (λj v hv=>?_);rw[ha,Z1k];rw[Z0B]at hv;split at hv
      .rw[Z0H]at hv;(have l:w'.heap[b]?=some (.cells vs ty (0,0)):=by rw[hw];exact q4);rw[Z2U _ _ _ _ _ _ l];simpa using hv
      .simp at hv
    .simp at h
   .simp at h
  .simp at h
 .simp at h
def A6u(e:TypeId)(sz:Nat)(s x:AV)(M:Mem):Option (AV×Mem):=
 match A0D M sz x with
 |none=>none
 |some (news,m)=>match s with
  |.val (.slice none 0 0)=>if m=0 then some (s,M)else some (.vref M.length 0 sz 0 m,M++[.vec e sz news 0 [(0,m)]])
  |.list s' [] .full=>if s'=sz then(if m=0 then some (s,M)else some (.vref M.length 0 sz 0 m,M++[.vec e sz news 0 [(0,m)]]))else none
  |.vref f h s' lo len=>match M[f]? with
   |some (.vec e2 s2 cs g hist)=>match hist.lookup h with
    |some n=>if e2=e/\s'=sz/\s2=sz/\lo+len<=n then
     if m=0 then some (s,M)else
     some (.vref f (g+1) sz 0 (len+m),M.set f (.vec e sz ((cs.drop (lo*sz)).take (len*sz)++news) (g+1) ((g+1,len+m)::if lo=0 then hist.filter (λp=>decide (p.2<=len))else[])))
     else none
    |none=>none
   |_=>none
  |_=>none
def A0q.le_time{G:A0q}{f n:Nat}{h:Option Addr×Nat}(hn:G.top f<n):G.le (G.grow f n h 0 0 []):=A0q.le_grow (.inl hn) (λi v h1 h2 _=>by simp at h2)
def A0q.time_st(G:A0q)(f n:Nat)(h:Option Addr×Nat)(b i:Nat):(G.grow f n h 0 0 []).st b i=G.st b i:=by simp only[A0q.grow,Z1p,Z0Y];rw[Z0d Q0]
def A0q.time_hdr(G:A0q)(f n:Nat)(h:Option Addr×Nat):(G.grow f n h 0 0 []).hdr f n=h:=ZBA
def A0q.time_old(G:A0q)(f n m:Nat)(h:Option Addr×Nat)(hm:m≠n):(G.grow f n h 0 0 []).hdr f m=G.hdr f m:=by simp[A0q.grow,hm]
def B8e{C}{G}{M}{w}(hi:Inv C G M w){s v}{M'}{xv}{t u e ty:TypeId}{sz bytes m}{news}{vs2}(he:A4g C.P e sz bytes)
 (ht:C.P.underlying t=some (.slice e))(hu:A4j C.P u)(y:A0v G news vs2)(d:vs2.length=m*sz)(a0:∀v∈vs2,v.oneCell'=true)(a4:∀w,(Builtin.lenOf xv).run C.P w=.ok m w)
 (a7:∀w',w'.heap=w.heap->(Builtin.firstCells sz m xv).run C.P w'=.ok vs2.toArray w')(base:Option Addr)(hs:Rep G s (.slice base 0 0))(ad:∀w',(Builtin.firstCells sz 0 (.slice base 0 0)).run C.P w'=.ok ([]:List Value).toArray w')
 (af:(0+m)*bytes<=140737488355328)(h:(if m=0 then some (s,M)else some (AV.vref M.length 0 sz 0 m,M++[.vec e sz news 0 [(0,m)]]))=some (v,M')):
 ∃r w' G',(Builtin.append_ #[t,u] ty #[.slice base 0 0,xv]).run C.P w=.ok r w'/\G.le G'/\Inv C G' M' w'/\Rep G' v r/\Ext w w':=by
 obtain⟨i,z,j,hz,g,ab,ae,a1⟩:=he
 have a5:A1n C.P e=some sz:=by simp[A1n,j,g]
 split at h
 .rename_i hm0;simp only[Z0b,Z0i]at h;obtain⟨rfl,rfl⟩:=h;subst hm0;have hv:vs2=[]:=Z0w (by simpa using d);subst hv;exact⟨_,w,G,B0b (s:=.bool true) (base:=base) (n:=0) (cap:=0) ht a5 hu a4 (a7 w rfl) (Z0j _),.refl _,hi,hs,.refl _⟩
 .rename_i hm0;simp only[Z0b,Z0i]at h;obtain⟨rfl,rfl⟩:=h;have a6:0+m<=maxLen:=by have:0+m<=(0+m)*bytes:=Z2i _ a1;simp only[maxLen];omega
  have k:=B0k (P:=C.P) (ty:=ty) (base:=base) (n:=0) (cap:=0) (x:=xv) (m:=m) (w:=w) (i:=i) (z:=z) (e:=e) (t:=t) (u:=u) (news:=vs2) (olds:=[]) ht j hz hu a4 (by rw[g];exact a7 w.drew rfl) (by rw[g];exact ad _) Q0 (by rw[ab];exact af) a6;have a8:=Z3F w (0+m) 0 e;have a3:=Z2P w (0+m) 0 e a6;generalize grownCap w (0+m) 0 e=nc at k a8 a3;have q:Ext w (w.drew.alloc (.cells (([]:List Value).toArray++vs2.toArray++Builtin.zeroCells z.cells (nc-(0+m))) e)):=(Ext.drew w).trans (Ext.alloc _ _);generalize p:([]:List Value).toArray++vs2.toArray++Builtin.zeroCells z.cells (nc-(0+m))=o at k q;have l:o.size=nc*sz:=by rw[<-p];simp only[Z3C,Z1r,Z4b,ae,d,Z1p,Z0P,<-Z0R];congr 1;omega
  have f:(o.toList.drop 0).take (m*sz)=vs2:=by rw[<-p,<-d];simp
  have a9:Inv C G M w.drew:=hi.world rfl;obtain⟨G',aa,a2,ah,ac,ag,ai⟩:=a9.newObj (.cells o e) (.vec e sz news 0 [(0,m)]) (λ_=>(some ⟨w.heap.size,0,none⟩,nc)) 0
   (λG' a2 _ hh ht hst hk=>⟨ht,λh n hm=>by
    simp only[Z0L,Z0i]at hm;obtain⟨rfl,rfl⟩:=hm;refine⟨Q0,Z2p (by rw[<-d,y.length]),w.heap.size,0,nc,o,by rw[hh],Q0,a3,Z1Z w.drew _,Z2p (by rw[l,Z0P]),?_,?_,hst,hk⟩
    .rw[f,Z0e (Z2p (by rw[<-y.length,d]))];exact A0v.mono a2 _ _ y
    .rw[f];exact a0,λh n h' n' a a' c c' m1 m2 e1 e2 _=>by
    rw[hh]at e1 e2;simp only[Z0i,Z0b]at e1 e2;rw[<-e1.1,<-e2.1]⟩)
   (λG' b _ hh hown=>by obtain⟨h,n,a,_,ha,rfl⟩:=hown;rw[hh]at ha;simp only[Z0b]at ha;rw[<-ha];rfl)
  refine⟨_,_,G',k,a2,aa,?_,q⟩;simp only[Rep];exact⟨ac,Q0,⟨w.heap.size,0,none⟩,⟨w.heap.size,0,none⟩,nc,by rw[ag],rfl,rfl,Q1,Q0,a3,λ_=>by simp⟩
def C7z{C:Ctx}{G:A0q}{M:Mem}{w:World}(hi:Inv C G M w){s x:AV}{sv xv:Value}(hs:Rep G s sv)(hx:Rep G x xv){t u e ty:TypeId}{sz bytes:Nat}(ht:C.P.underlying t=some (.slice e))(hu:A4j C.P u)
 (he:A4g C.P e sz bytes){v:AV}{M':Mem}(hb:∀cs k,A0D M sz s=some (cs,k)->∀news m,A0D M sz x=some (news,m)->(k+m)*bytes<=140737488355328)(h:A6u e sz s x M=some (v,M')):
 ∃r w' G',(Builtin.append_ #[t,u] ty #[sv,xv]).run C.P w=.ok r w'/\G.le G'/\Inv C G' M' w'/\Rep G' v r/\Ext w w':=by
 obtain⟨i,z,a7,hz,aa,bb,ba,ad⟩:=he
 have az:A1n C.P e=some sz:=by simp[A1n,a7,aa]
 unfold A6u at h
 split at h
 .simp at h
 rename_i news m hsrc
 obtain⟨y,b7,l,a8,al,ap⟩:=A7M hi hx hsrc
 split at h
 ·-- nil
  simp only[Rep]at hs;subst hs;exact B8e hi ⟨i,z,a7,hz,aa,bb,ba,ad⟩ ht hu b7 l a8 al ap none ZAE (by simp[Builtin.firstCells]) (hb [] 0 rfl news m hsrc) h
 .rename_i s';split at h;case isFalse=>simp at h
  rename_i hss;subst hss;have ar:=hs;simp only[Rep,A5v]at hs;obtain⟨base,cap,rfl,_,_,_,ax⟩:=hs;simp only[Z1p]at ax ar|-;subst ax;exact B8e hi ⟨i,z,a7,hz,aa,bb,ba,ad⟩ ht hu b7 l a8 al ap base ar (λw'=>by
   cases base with
   |none=>simp[Builtin.firstCells]
   |some a=>exact Z2l (P:=C.P) w' s' 0 a 0 0 [] Q1 (λj v hv=>by simp at hv)) (hb [] 0 ZDC news m hsrc) h
 ·-- a slice of an array
  rename_i f h' s' lo len;split at h;case h_2=>simp at h
  rename_i e2 s2 cs g hist hM;split at h;case h_2=>simp at h
  rename_i n hn;split at h;case isFalse=>simp at h
  rename_i hc;obtain⟨rfl,rfl,rfl,ak⟩:=hc;have ar:=hs;simp only[Rep]at hs;obtain⟨hf,hg,a,a',cap,hd,cb,c8,rfl,bo,ca,c6⟩:=hs;obtain⟨p0,p2,p3⟩:=hi.obj f _ hM;have ag:=A2S hn;obtain⟨_,q0,b,o,c,vs,q1,q2,q3,q4,q5,q6,q7,q8,q9⟩:=p2 h' n ag;have c9:=hd;rw[q1]at hd;simp only[Z0i,Z0b]at hd;obtain⟨rfl,rfl⟩:=hd;split at h
  .rename_i hm0;simp only[Z0b,Z0i]at h;obtain⟨rfl,rfl⟩:=h;subst hm0;have hv:y=[]:=Z0w (by simpa using l);subst hv;exact⟨_,w,G,B0b (s:=.bool true) (base:=some a') (n:=len) (cap:=c-lo) ht az hu al (ap w rfl) Q0,.refl _,hi,ar,.refl _⟩
  rename_i hm0;simp only[Z0b,Z0i]at h;obtain⟨rfl,rfl⟩:=h;have h0:lo*s2+len*s2<=n*s2:=by rw[<-Z0R];exact Z0V _ ak
  have cc:lo*s2+len*s2<=c*s2:=by rw[<-Z0R];exact Z0V _ bo
  obtain⟨a6,bw,aj,bc,-,bs⟩:=A7M hi (m:=len) (sz:=s2) (news:=(cs.drop (lo*s2)).take (len*s2)) ar (by simp[A0D,hM,hn,ak]);have b0:=bw.append b7;have av:∀v∈a6++y,v.oneCell'=true:=λv hv=>by
   rcases Z0N.1 hv with h|h
   .exact bc v h
   .exact a8 v h
  have ae:(a6++y).length=(len+m)*s2:=by rw[Z0k,aj,l,Z0R]
  have ac:((cs.drop (lo*s2)).take (len*s2)++news).length=(len+m)*s2:=by rw[<-b0.length,ae]
  have a5:∀(w1:World) (gb o1 c1:Nat) (d:Array Value),(gb=b\/w.heap.size<=gb)->(∀b',b'<w.heap.size->b'≠gb->w1.heap[b']?=w.heap[b']?)->w1.heap[gb]?=some (.cells d e2 (0,0))->
   len+m<=c1->c1<=maxLen->o1+c1*s2<=d.size->(d.toList.drop o1).take ((len+m)*s2)=a6++y->(∀i,G.st gb i=none)->G.keep gb=none->
   (lo=0->gb=b->o1=o/\vs.size<=d.size/\∀i,i<o+len*s2->d.toList[i]?=vs.toList[i]?)->
   ∃G',G.le G'/\Inv C G' (M.set f (.vec e2 s2 ((cs.drop (lo*s2)).take (len*s2)++news) (g+1) ((g+1,len+m)::if lo=0 then hist.filter (λp=>decide (p.2<=len))else[]))) w1/\Rep G' (.vref f (g+1) s2 0 (len+m)) (.slice (some ⟨gb,o1,none⟩) (len+m) c1):=by
   intro w1 gb o1 c1 d bd hw a0 c7 b5 bv af bg ao br
   have bu:G.top f<g+1:=Q0
   have a9:=A0q.le_time (h:=(some (⟨gb,o1,none⟩:Addr),c1)) bu
   have ah:∀h1 n1,(h1,n1)∈(if lo=0 then hist.filter (λp=>decide (p.2<=len))else[])->lo=0/\(h1,n1)∈hist/\n1<=len:=by
    intro h1 n1 hm;split at hm
    .rename_i e;have:=Z1o.1 hm;exact⟨e,this.1,by simpa using this.2⟩
    .simp at hm
   have q:∀h1 n1,(h1,n1)∈hist->h1≠g+1:=λh1 n1 hm=>by have:=(p2 h1 n1 hm).1;omega
   have ai:=hi.step (G':=G.grow f (g+1) (some ⟨gb,o1,none⟩,c1) 0 0 []) (w':=w1) (o':=.vec e2 s2 ((cs.drop (lo*s2)).take (len*s2)++news) (g+1) ((g+1,len+m)::if lo=0 then hist.filter (λp=>decide (p.2<=len))else[])) f gb hM
    (bd.imp (λe=>⟨h',n,_,ag,congrArg Prod.fst q1,e.symm⟩) id) a9 rfl (λ_=>rfl) (λj hj=>by simp[A0q.grow,hj]) (λb i v hv=>by rw[A0q.time_st]at hv;exact .inl hv) (λ_=>rfl) hw
    (λi v hv=>by rw[bg i]at hv;simp at hv) (λo ho=>by rw[ao]at ho;simp at ho)
    ⟨ZBA,λh1 n1 hm=>?_,λh1 n1 h2 n2 a1 a2 au c2' m1 m2 e1 e2 e3=>?_⟩
    (λb1 ⟨h1,n1,a1,hm,e1,e2⟩=>?_)
   .refine⟨_,a9,ai,?_⟩;simp only[Rep];exact⟨hf,ZBA,⟨gb,o1,none⟩,⟨gb,o1,none⟩,c1,A0q.time_hdr _ _ _ _,rfl,rfl,Q1,Q0,b5,λ_=>by simp⟩
   ·-- each slice that is kept reads as it did
    rcases Z0p.1 hm with hm|hm
    .simp only[Z0i]at hm;obtain⟨rfl,rfl⟩:=hm;refine⟨ZBA,Z2p ac.symm,gb,o1,c1,d,A0q.time_hdr _ _ _ _,c7,b5,a0,bv,?_,?_,λi=>by rw[A0q.time_st];exact bg i,ao⟩
     .rw[af,Z0e (Z2p ac)];exact A0v.mono a9 _ _ b0
     .rw[af];exact av
    .obtain⟨rfl,a3,bn⟩:=ah h1 n1 hm;obtain⟨r0,r1,b2,o2,b6,vs',s1,be,s3,s4,s5,s6,s7,s8,s9⟩:=p2 h1 n1 a3;have bm:n1*s2<=len*s2:=Z0V _ bn;(have bz:((cs.drop (0*s2)).take (len*s2)++news).take (n1*s2)=cs.take (n1*s2):=by rw[Z1S,Z1z,Z1D ZCJ,Z1Y,Z1F bm]);refine⟨by simp[A0q.grow];omega,by rw[ac,Z0R];omega,b2,o2,b6,?_⟩;rw[A0q.time_old _ _ _ _ _ (q _ _ a3),bz];by_cases e:b2=gb
     .subst e;have eb:b2=b:=by
       rcases bd with h|h
       .exact h
       .have:=A4x s4;omega
      subst eb;obtain⟨rfl,c2,b9⟩:=br rfl rfl;have eo:(⟨b2,o2,none⟩:Addr)=⟨b2,o1,none⟩:=p3 h1 n1 h' n _ _ _ _ a3 ag s1 q1 rfl;simp only[Z3J,Z2J,Z1A]at eo;subst eo;rw[q4]at s4;simp only[Z0b,Obj.cells.injEq,Z1A]at s4;subst s4;have am:(d.toList.drop o2).take (n1*s2)=(vs.toList.drop o2).take (n1*s2):=by
       apply Z1W;intro i;rw[Z0B,Z0B];split
       .rw[Z0H,Z0H];exact b9 _ Q0
       .rfl
      have bk:o2+b6*s2<=d.size:=Q0;exact⟨d,s1,be,s3,a0,bk,by rw[am];exact A0v.mono a9 _ _ s6,by rw[am];exact s7,λi=>by rw[A0q.time_st];exact s8 i,s9⟩
     .exact⟨vs',s1,be,s3,by rw[hw b2 (A4x s4) e];exact s4,s5,A0v.mono a9 _ _ s6,s7,λi=>by rw[A0q.time_st];exact s8 i,s9⟩
   ·-- slices in one block begin at one cell
    (have ab:∀h1 n1 a1 au,(h1,n1)∈(if lo=0 then hist.filter (λp=>decide (p.2<=len))else[])->(G.grow f (g+1) (some ⟨gb,o1,none⟩,c1) 0 0 []).hdr f h1=(some a1,au)->gb=a1.block->(⟨gb,o1,none⟩:Addr)=a1:=by intro h1 n1 a1 au hm e1 e2;obtain⟨rfl,a3,_⟩:=ah h1 n1 hm;rw[A0q.time_old _ _ _ _ _ (q _ _ a3)]at e1;have hlt:=(A5y.owns_lt (hi.obj f _ hM) (b:=a1.block) ⟨h1,n1,a1,a3,by rw[e1],rfl⟩);(have eb:gb=b:=by rcases bd with h|h<;>omega);subst eb;obtain⟨rfl,_⟩:=br rfl rfl;exact(p3 h1 n1 h' n _ _ _ _ a3 ag e1 q1 e2.symm).symm);rcases Z0p.1 m1 with m1|m1<;>rcases Z0p.1 m2 with m2|m2
    .simp only[Z0i]at m1 m2;obtain⟨rfl,rfl⟩:=m1;obtain⟨rfl,rfl⟩:=m2;rw[e1]at e2;simp only[Z0i,Z0b]at e2;exact e2.1
    .simp only[Z0i]at m1;obtain⟨rfl,rfl⟩:=m1;rw[A0q.time_hdr]at e1;simp only[Z0i,Z0b]at e1;obtain⟨rfl,_⟩:=e1;exact ab h2 n2 a2 c2' m2 e2 e3
    .simp only[Z0i]at m2;obtain⟨rfl,rfl⟩:=m2;rw[A0q.time_hdr]at e2;simp only[Z0i,Z0b]at e2;obtain⟨rfl,_⟩:=e2;exact(ab h1 n1 a1 au m1 e1 e3.symm).symm
    .obtain⟨_,bp,_⟩:=ah h1 n1 m1;obtain⟨_,bi,_⟩:=ah h2 n2 m2;rw[A0q.time_old _ _ _ _ _ (q _ _ bp)]at e1;rw[A0q.time_old _ _ _ _ _ (q _ _ bi)]at e2;exact p3 h1 n1 h2 n2 a1 a2 au c2' bp bi e1 e2 e3
   .rcases Z0p.1 hm with hm|hm
    .simp only[Z0i]at hm;obtain⟨rfl,rfl⟩:=hm;rw[A0q.time_hdr]at e1;simp only[Z0b]at e1;subst e1;exact .inl e2.symm
    .obtain⟨_,a3,_⟩:=ah h1 n1 hm;rw[A0q.time_old _ _ _ _ _ (q _ _ a3)]at e1;exact .inr ⟨h1,n1,a1,a3,e1,e2⟩
  by_cases hroom:len+m<=c-lo
  ·-- in place
   have ha:=c6 Q0;subst ha;simp only at*;have bx:(lo+(len+m))*s2<=c*s2:=Z0V _ Q0;rw[Z0R,Z0R]at bx;have a4:=C0e (P:=C.P) (ty:=ty) (g:=b) (o:=o+lo*s2) (n:=len) (cap:=c-lo) (x:=xv) (m:=m) ht az hu al (ap w rfl) hroom q4 (by rw[l];omega) a8;have a0:=Z2L w b vs (vs.toList.take (o+lo*s2+len*s2)++y++vs.toList.drop (o+lo*s2+len*s2+y.length)).toArray e2 (0,0) q4;generalize bq:(vs.toList.take (o+lo*s2+len*s2)++y++vs.toList.drop (o+lo*s2+len*s2+y.length))=nl at a4 a0;have ay:∀i,nl[i]?=if o+lo*s2+len*s2<=i/\i<o+lo*s2+len*s2+y.length then y[i-(o+lo*s2+len*s2)]? else vs.toList[i]?:=by intro i;rw[<-bq];exact A5E (by rw[l];simp;omega)
   (have c5:nl.length=vs.size:=by rw[<-bq];simp only[Z0k,Z0t,Z0G,Z0X];omega);obtain⟨G',a9,ai,aq⟩:=a5 (w.setRow b nl.toArray) b (o+lo*s2) (c-lo) nl.toArray (.inl rfl) (λb' _ hne=>Z2o _ _ _ _ hne) a0 hroom Q0
    (by(have h1:lo*s2+(c-lo)*s2=c*s2:=by rw[<-Z0R];congr 1;omega);simp only[Z1r];omega)
    (by
     apply Z1W;intro k;rw[Z0B];split
     .rename_i hk;rw[Z0R]at hk;rw[Z0H,show(nl.toArray.toList:List Value)=nl from rfl,ay];by_cases hk2:k<a6.length
      .rw[Z0d Q0,Z0o hk2];have b8:=bs w rfl;by_cases hl0:len=0
       .subst hl0;omega
       .have bf:=Z2l (P:=C.P) w s2 len ⟨b,o+lo*s2,none⟩ len (c-lo) ((vs.toList.drop (o+lo*s2)).take (len*s2)) (by simp only[Z0t,Z0G,Z0X];omega) (λj v hv=>by
         rw[Z1k];rw[Z0B]at hv;split at hv
         .rw[Z0H]at hv;rw[Z2U _ _ _ _ _ _ q4];simpa using hv
         .simp at hv)
        rw[bf]at b8;simp only[Z4A,Z1A]at b8;(have bh:(vs.toList.drop (o+lo*s2)).take (len*s2)=a6:=by simpa using b8);rw[<-bh,Z0B,Z0c Q0,Z0H]
      .rw[Z0c Q0,Z1t Q0];congr 1;omega
     .rename_i hk;rw[Z1J Q0])
    q8 q9 (λh0 _=>⟨by subst h0;simp,by simp only[Z1r];omega,λi hi2=>by subst h0;rw[show(nl.toArray.toList:List Value)=nl from rfl,ay,Z0d Q0]⟩)
   exact⟨_,_,G',a4,a9,ai,aq,Ext.setRow _ _ _⟩
  ·-- in a new block
   have c0:=hb _ len (by simp[A0D,hM,hn,ak];rfl) news m hsrc;(have bl:len+m<=maxLen:=by have:len+m<=(len+m)*bytes:=Z2i _ ad;simp only[maxLen];omega);have a4:=B0k (P:=C.P) (ty:=ty) (base:=some a') (n:=len) (cap:=c-lo) (x:=xv) (m:=m) (w:=w) (i:=i) (z:=z) (e:=e2) (t:=t) (u:=u) (news:=y) (olds:=a6) ht a7 hz hu al (by rw[aa];exact ap w.drew rfl) (by rw[aa];exact bs w.drew rfl) Q0 (by rw[bb];exact c0) bl;have c3:=Z3F w (len+m) (c-lo) e2;have bt:=Z2P w (len+m) (c-lo) e2 bl;generalize grownCap w (len+m) (c-lo) e2=nc at a4 c3 bt;have b4:Ext w (w.drew.alloc (.cells (a6.toArray++y.toArray++Builtin.zeroCells z.cells (nc-(len+m))) e2)):=(Ext.drew w).trans (Ext.alloc _ _);generalize b3:a6.toArray++y.toArray++Builtin.zeroCells z.cells (nc-(len+m))=d at a4 b4;(have aw:d.size=nc*s2:=by rw[<-b3];simp only[Z3C,Z1r,Z4b,ba,l,aj,<-Z0R];congr 1;omega);have bj:∀i,G.st w.heap.size i=none:=by
    intro i;cases h:G.st w.heap.size i with
    |none=>rfl
    |some v=>have:=hi.st_lt h;simp at this
   have c4:G.keep w.heap.size=none:=by
    cases h:G.keep w.heap.size with
    |none=>rfl
    |some v=>have:=hi.keep_lt h;simp at this
   obtain⟨G',a9,ai,aq⟩:=a5 (w.drew.alloc (.cells d e2)) w.heap.size 0 nc d (.inr (Z0j _)) (λb' hlt _=>A2N w.drew _ b' hlt) (Z1Z w.drew _) Q0 bt
    (Z2p (by rw[aw,Z0P]))
    (by(have e:d.toList=(a6++y)++(Builtin.zeroCells z.cells (nc-(len+m))).toList:=by rw[<-b3];simp);rw[e,<-ae,Z1z,Z4D])
    bj c4 (λ_ h=>by have:=A4x q4;omega)
   exact⟨_,_,G',a4,a9,ai,aq,b4⟩
 .simp at h
structure A2r where
 imm:Nat->Bool
 own:Nat->Bool
 vec:Nat->Bool:=λ_=>false
def A2e(f:Nat->Bool):Option Nat->Bool
 |some d=>f d
 |none=>false
def D6R(G:A0q)(nx:Next)(v:AV):Prop:=(∃x,nx=.value x/\Rep G v x)\/(nx=.skip/\v=.val undef)
def A3z(C:Ctx)(G:A0q)(w:World)(s:Sem Next)(v:AV)(M':Mem):Prop:=∃nx w' G',s.run C.P w=.ok nx w'/\D6R G' nx v/\G.le G'/\Inv C G' M' w'/\Ext w w'
def A3z.same{C}{G}{M}{w}{s}{v}{x}(hi:Inv C G M w)(hr:s.run C.P w=.ok (.value x) w)(hx:Rep G v x):A3z C G w s v M:=⟨_,w,G,hr,.inl ⟨x,rfl,hx⟩,.refl _,hi,.refl _⟩
def A9Y(op:BinOp)(k:IntKind)(a b:Int):Option Value:=
 match op with
 |.add=>some (.int k (k.wrap (a+b)))
 |.sub=>some (.int k (k.wrap (a-b)))
 |.mul=>some (.int k (k.wrap (a*b)))
 |.eql=>some (.bool (a==b))
 |.neq=>some (.bool (a !=b))
 |.lss=>some (.bool (decide (a<b)))
 |.leq=>some (.bool (decide (a<=b)))
 |.gtr=>some (.bool (decide (a>b)))
 |.geq=>some (.bool (decide (a>=b)))
 |.quo=>if b=0 then none else some (.int k (k.wrap (a.tdiv b)))
 |.rem=>if b=0 then none else some (.int k (a.tmod b))
 |.and=>some (.int k (k.wrap ((BitVec.ofInt k.bits a &&& BitVec.ofInt k.bits b).toNat)))
 |.or=>some (.int k (k.wrap ((BitVec.ofInt k.bits a ||| BitVec.ofInt k.bits b).toNat)))
 |.xor=>some (.int k (k.wrap ((BitVec.ofInt k.bits a ^^^ BitVec.ofInt k.bits b).toNat)))
 |.andNot=>some (.int k (k.wrap ((BitVec.ofInt k.bits a &&& ~~~BitVec.ofInt k.bits b).toNat)))
 |.shl=>if b<0 then none else some (.int k (k.wrap (a*2^(min b.toNat k.bits))))
 |.shr=>if b<0 then none else some (.int k (a.fdiv (2^(min b.toNat k.bits))))
def B9N(op:BinOp)(a b:ByteArray):Option Value:=
 match op with
 |.eql=>some (.bool (a.toList==b.toList))
 |.neq=>some (.bool !(a.toList==b.toList))
 |.lss=>some (.bool (Op.bytesLess a.toList b.toList))
 |.leq=>some (.bool (Op.bytesLess a.toList b.toList||a.toList==b.toList))
 |.gtr=>some (.bool !(Op.bytesLess a.toList b.toList||a.toList==b.toList))
 |.geq=>some (.bool !(Op.bytesLess a.toList b.toList))
 |.add=>if((a.size+b.size:Nat):Int)>IntKind.i64.max then none else some (.string (a++b))
 |_=>none
def B4w:AV->Option Bool
 |.val (.pointer none)|.val (.slice none 0 0)|.val (.map none)|.val .nilFunc=>some true
 |.ptr _ _|.cptr _|.mapr _|.func _ _ _=>some false
 |.list _ (_::_) _=>some false
 |_=>none
def A3Z(P:Program)(t:TypeId):AV->Bool
 |.val (.pointer none)=>match P.underlying t with|some (.pointer _)=>true|_=>false
 |.val (.slice none 0 0)=>match P.underlying t with|some (.slice _)=>true|_=>false
 |.val (.map none)=>match P.underlying t with|some (.map _ _)=>true|_=>false
 |.val .nilFunc=>match P.underlying t with|some (.func _ _ _)=>true|_=>false
 |_=>false
def A3b:AV->AV->Bool
 |.val (.pointer none),.val (.pointer none)|.val (.slice none 0 0),.val (.slice none 0 0)|.val (.map none),.val (.map none)|.val .nilFunc,.val .nilFunc=>true
 |.ptr _ _,.val (.pointer none)|.cptr _,.val (.pointer none)|.mapr _,.val (.map none)|.func _ _ _,.val .nilFunc|.list _ _ _,.val (.slice none 0 0)=>true
 |_,_=>false
def A3v(P:Program)(op:BinOp)(t:TypeId)(x y:AV):Option AV:=
 match x,y with
 |.val (.int k a),.val (.int k' b)=>if k=k' then(A9Y op k a b).map .val else none
 |.val (.string a),.val (.string b)=>(B9N op a b).map .val
 |.val (.bool a),.val (.bool b)=>match P.underlying t,op with
  |some .bool,.eql=>some (.val (.bool (a==b)))
  |some .bool,.neq=>some (.val (.bool !(a==b)))
  |_,_=>none
 |x,y=>if A3Z P t y&&A3b x y then match B4w x,op with
  |some b,.eql=>some (.val (.bool b))
  |some b,.neq=>some (.val (.bool !b))
  |_,_=>none
  else none
def C7N{P}{op}{k}{a b}{v}(h:A9Y op k a b=some v)(t:TypeId)(w:World):(binOp op t (.int k a) (.int k b)).run P w=.ok v w:=by
 cases op;case quo=>
  simp only[A9Y]at h;split at h
  .simp at h
  .rename_i hb;cases h;simp[binOp,Op.intDiv,hb]
 case rem=>
  simp only[A9Y]at h;split at h
  .simp at h
  .rename_i hb;cases h;simp[binOp,Op.intDiv,hb]
 case shl=>
  simp only[A9Y]at h;split at h
  .simp at h
  .rename_i hb;cases h;simp[binOp,Op.shift,hb]
 case shr=>
  simp only[A9Y]at h;split at h
  .simp at h
  .rename_i hb;cases h;simp[binOp,Op.shift,hb]
 case and=>simp only[A9Y,Z0b]at h;subst h;simp[binOp,Op.intBits]
 case or=>simp only[A9Y,Z0b]at h;subst h;simp[binOp,Op.intBits]
 case xor=>simp only[A9Y,Z0b]at h;subst h;simp[binOp,Op.intBits]
 case andNot=>simp only[A9Y,Z0b]at h;subst h;simp[binOp,Op.intBits]
 all_goals first
  |(simp only[A9Y]at h;done)
  |(simp only[A9Y,Z0b]at h;subst h;simp[binOp,Op.intArith,Op.intCmp])
def C7e{P}{op}{a b}{v}(h:B9N op a b=some v)(t:TypeId)(w:World):(binOp op t (.string a) (.string b)).run P w=.ok v w:=by
 cases op<;>simp[B9N]at h;case add=>obtain⟨h1,h2⟩:=h;subst h2;simp[binOp,Op.stringOp];omega
 all_goals (subst h;simp[binOp,Op.stringOp])
def B3R{P}{t:TypeId}(h:P.underlying t=some .bool)(d:Nat)(a b:Bool)(w:World):(Op.equalIn (d+1) t (.bool a) (.bool b)).run P w=.ok (a==b) w:=by simp[Op.equalIn,Z0q h]
def B1F{P}{t e:TypeId}(h:P.underlying t=some (.pointer e))(d:Nat)(a:Option Addr)(w:World):(Op.equalIn (d+1) t (.pointer a) (.pointer none)).run P w=.ok a.isNone w:=ZDG
def A5A{P}{t e:TypeId}(h:P.underlying t=some (.slice e))(d:Nat)(a:Option Addr)(n c:Nat)(w:World):(Op.equalIn (d+1) t (.slice a n c) (.slice none 0 0)).run P w=.ok a.isNone w:=ZDG
def B6D{P}{t k e:TypeId}(h:P.underlying t=some (.map k e))(d:Nat)(a:Option Nat)(w:World):(Op.equalIn (d+1) t (.map a) (.map none)).run P w=.ok a.isNone w:=ZDG
def C1R{P}{t:TypeId}{p r}{v}(h:P.underlying t=some (.func p r v))(d:Nat)(fn:Fn)(f c:Array Value)(w:World):(Op.equalIn (d+1) t (.func fn f c) .nilFunc).run P w=.ok false w:=by simp[Op.equalIn,Z0q h]
def B4L{P}{t:TypeId}{p r}{v}(h:P.underlying t=some (.func p r v))(d:Nat)(w:World):(Op.equalIn (d+1) t .nilFunc .nilFunc).run P w=.ok true w:=by simp[Op.equalIn,Z0q h]
def C1K{C:Ctx}{G:A0q}{x y:AV}{xv yv:Value}(hx:Rep G x xv)(hy:Rep G y yv){t:TypeId}(hk:A3Z C.P t y=true)(hs:A3b x y=true){b:Bool}(hb:B4w x=some b)(d:Nat)(w:World):(Op.equalIn (d+1) t xv yv).run C.P w=.ok b w:=by
 unfold A3b at hs
 split at hs
 all_goals first|(exact Bool.noConfusion hs)|skip
 all_goals simp only[Rep]at hx hy
 all_goals simp only[A3Z]at hk
 all_goals split at hk
 all_goals first|(exact Bool.noConfusion hk)|skip
 all_goals simp only[B4w]at hb
 .rename_i h;subst hx;subst hy;simp at hb;subst hb;rw[B1F h];rfl
 .rename_i h;subst hx;subst hy;simp at hb;subst hb;rw[A5A h];rfl
 .rename_i h;subst hx;subst hy;simp at hb;subst hb;rw[B6D h];rfl
 .rename_i h;subst hx;subst hy;simp at hb;subst hb;rw[B4L h]
 .rename_i h;obtain⟨_,rfl⟩:=hx;subst hy;simp at hb;subst hb;rw[B1F h];rfl
 .rename_i h;obtain⟨_,_,rfl,_⟩:=hx;subst hy;simp at hb;subst hb;rw[B1F h];rfl
 .rename_i h;obtain⟨_,rfl⟩:=hx;subst hy;simp at hb;subst hb;rw[B6D h];rfl
 .rename_i h;obtain⟨_,_,rfl,_⟩:=hx;subst hy;simp at hb;subst hb;rw[C1R h]
 .rename_i h;subst hy;obtain⟨base,cap,rfl,h1,h2,h3,h4⟩:=hx;rw[A5A h];cases base with
  |none=>obtain⟨rfl,rfl⟩:=h3;simp at hb
  |some a=>split at hb;(all_goals first|(exact Option.noConfusion hb)|skip);all_goals simp_all
def A3E{P}{t:TypeId}{xv yv}{ox oy}{b}{w}(he:∀d,(Op.equalIn (d+1) t xv yv).run P w=.ok b w)
 (hx:(∃a,xv=.pointer a)\/(∃a n c,xv=.slice a n c)\/(∃a,xv=.map a)\/(∃f a c,xv=.func f a c)\/xv=.nilFunc\/∃a,xv=.bool a)
 (hy:(∃a,yv=.pointer a)\/(∃a n c,yv=.slice a n c)\/(∃a,yv=.map a)\/yv=.nilFunc\/∃a,yv=.bool a):
 (do eqGuard .eql t ox oy xv yv;binOp .eql t xv yv:Sem Value).run P w=.ok (.bool b) w/\(do eqGuard .neq t ox oy xv yv;binOp .neq t xv yv:Sem Value).run P w=.ok (.bool !b) w:=by
 have e:(Op.equal t xv yv).run P w=.ok b w:=he 9999
 have h1:(eqGuard .eql t ox oy xv yv).run P w=.ok () w/\(eqGuard .neq t ox oy xv yv).run P w=.ok () w:=by rcases hx with⟨a,rfl⟩|⟨a,n,c,rfl⟩|⟨a,rfl⟩|⟨f,a,c,rfl⟩|rfl|⟨a,rfl⟩<;>simp[eqGuard]
 have h2:binOp .eql t xv yv=(do pure (.bool (<-Op.equal t xv yv)))/\binOp .neq t xv yv=(do pure (.bool (!(<-Op.equal t xv yv)))):=by rcases hx with⟨a,rfl⟩|⟨a,n,c,rfl⟩|⟨a,rfl⟩|⟨f,a,c,rfl⟩|rfl|⟨a,rfl⟩<;>rcases hy with⟨a',rfl⟩|⟨a',n',c',rfl⟩|⟨a',rfl⟩|rfl|⟨a',rfl⟩<;>exact⟨rfl,rfl⟩
 constructor
 .simp only[Z0E,h1.1,Z0u,h2.1,e,Z0O]
 .simp only[Z0E,h1.2,Z0u,h2.2,e,Z0O]
def D2O{G}{x y}{xv yv}(hx:Rep G x xv)(hy:Rep G y yv)(hs:A3b x y=true):
 ((∃a,xv=.pointer a)\/(∃a n c,xv=.slice a n c)\/(∃a,xv=.map a)\/(∃f a c,xv=.func f a c)\/xv=.nilFunc\/∃a,xv=.bool a)/\
 ((∃a,yv=.pointer a)\/(∃a n c,yv=.slice a n c)\/(∃a,yv=.map a)\/yv=.nilFunc\/∃a,yv=.bool a):=by
 unfold A3b at hs
 split at hs
 all_goals first|(exact Bool.noConfusion hs)|skip
 all_goals simp only[Rep]at hx hy
 all_goals (subst hy)
 .subst hx;exact⟨.inl ⟨_,rfl⟩,.inl ⟨_,rfl⟩⟩
 .subst hx;exact⟨.inr (.inl ⟨_,_,_,rfl⟩),.inr (.inl ⟨_,_,_,rfl⟩)⟩
 .subst hx;exact⟨.inr (.inr (.inl ⟨_,rfl⟩)),.inr (.inr (.inl ⟨_,rfl⟩))⟩
 .subst hx;exact⟨.inr (.inr (.inr (.inr (.inl rfl)))),.inr (.inr (.inr (.inl rfl)))⟩
 .obtain⟨_,rfl⟩:=hx;exact⟨.inl ⟨_,rfl⟩,.inl ⟨_,rfl⟩⟩
 .obtain⟨_,_,rfl,_⟩:=hx;exact⟨.inl ⟨_,rfl⟩,.inl ⟨_,rfl⟩⟩
 .obtain⟨_,rfl⟩:=hx;exact⟨.inr (.inr (.inl ⟨_,rfl⟩)),.inr (.inr (.inl ⟨_,rfl⟩))⟩
 .obtain⟨_,_,rfl,_⟩:=hx;exact⟨.inr (.inr (.inr (.inl ⟨_,_,_,rfl⟩))),.inr (.inr (.inr (.inl rfl)))⟩
 .obtain⟨_,_,rfl,_⟩:=hx;exact⟨.inr (.inl ⟨_,_,_,rfl⟩),.inr (.inl ⟨_,_,_,rfl⟩)⟩
def C2i{C:Ctx}{G:A0q}{M:Mem}{w:World}(hi:Inv C G M w){x y:AV}{xv yv:Value}(hx:Rep G x xv)(hy:Rep G y yv){op:BinOp}{t:TypeId}{v:AV}(h:A3v C.P op t x y=some v)(ox oy:Operand):∃u,(do eqGuard op t ox oy xv yv;binOp op t xv yv:Sem Value).run C.P w=.ok u w/\Rep G v u:=by
 unfold A3v at h
 split at h
 .simp only[Rep]at hx hy;subst hx;subst hy;split at h
  .rename_i hk;subst hk;simp only[Z0l]at h;obtain⟨u,hu,rfl⟩:=h;refine⟨u,?_,ZAE⟩;have:=C7N (P:=C.P) hu t w;cases op<;>simp[A9Y]at hu<;>simp[eqGuard,this]
  .simp at h
 .simp only[Rep]at hx hy;subst hx;subst hy;simp only[Z0l]at h;obtain⟨u,hu,rfl⟩:=h;refine⟨u,?_,ZAE⟩;have:=C7e (P:=C.P) hu t w;cases op<;>simp[B9N]at hu<;>simp[eqGuard,this]
 .simp only[Rep]at hx hy;subst hx;subst hy;split at h
  .rename_i hu;simp at h;subst h;exact⟨_,(A3E (λd=>B3R hu d _ _ w) Q1 Q1).1,ZAE⟩
  .rename_i hu;simp at h;subst h;exact⟨_,(A3E (λd=>B3R hu d _ _ w) Q1 Q1).2,ZAE⟩
  .simp at h
 .split at h;case isFalse=>simp at h
  rename_i hc;simp only[Z0h]at hc;obtain⟨k1,k2⟩:=D2O hx hy hc.2;split at h
  .rename_i b hb;simp at h;subst h;exact⟨_,(A3E (λd=>C1K hx hy hc.1 hc.2 hb d w) k1 k2).1,ZAE⟩
  .rename_i b hb;simp at h;subst h;exact⟨_,(A3E (λd=>C1K hx hy hc.1 hc.2 hb d w) k1 k2).2,ZAE⟩
  .simp at h
def A1s(len:Nat):Option AV->Option Nat
 |none=>some len
 |some (.val (.int _ i))=>if 0<=i/\i<=len then some i.toNat else none
 |_=>none
def A6H(len l h:Nat)(mx:Option Nat)(own:Own):Own:=
 match mx with
 |some m=>if m=h then .full else .no
 |none=>match own with
  |.full=>if h=len then .full else .no
  |.fam f=>if h=len/\l=0 then .fam f else .no
  |.no=>.no
def A3Y(P:Program)(t:TypeId)(sz:Nat)(rows:List (List AV))(own:Own)(lo hi mx:Option AV):Option AV:=
 match(match mx with|none=>some none|some m=>(A1s rows.length (some m)).map some),A1b P t with
 |some m,some e=>if A1n P e=some sz then
  match A1s (m.getD rows.length) (match hi with|some h=>some h|none=>none),hi.isSome||mx.isNone with
  |some h,true=>match(match lo with|none=>some 0|some l=>A1s h (some l))with
   |some l=>some (.list sz ((rows.take h).drop l) (A6H rows.length l h m own))
   |none=>none
  |_,_=>none
  else none
 |_,_=>none
def A3S(P:Program)(t:TypeId)(x:AV)(lo hi mx:Option AV):Option AV:=
 match x with
 |.val (.string s)=>match mx,P.underlying t,A1s s.size hi with
  |none,some .string,some h=>match(match lo with|none=>some 0|some l=>A1s h (some l))with
   |some l=>some (.val (.string (s.extract l h)))
   |none=>none
  |_,_,_=>none
 |.list sz rows own=>A3Y P t sz rows own lo hi mx
 |.val (.slice none 0 0)=>match A1b P t with
  |some e=>match A1n P e with
   |some sz=>(A3Y P t sz [] .full lo hi mx).map λ_=>.val (.slice none 0 0)
   |none=>none
  |none=>none
 |_=>none
def A0U(P:Program)(t:TypeId)(f:Nat):Option (Nat×TypeId):=match P.underlying t with
 |some (.struct fs)=>(fs[f]?).map λx=>(x.offset,x.type)
 |_=>none
def putCells(zero:List AV)(off:Nat)(v:AV):Option (List AV):=if v.storable&&decide (off+v.cells.length<=zero.length)then some (zero.take off++v.cells++zero.drop (off+v.cells.length))else none
def A0G(P:Program)(t:TypeId):Option (List Value):=match P.info? t with
 |some i=>i.zero.map (·.cells.toList)
 |none=>none
def A3c(P:Program)(t:TypeId):Bool:=match P.underlying t with
 |some (.struct fs)=>fs.toList.all λf=>(A1n P f.type).isSome
 |_=>false
def A1l(P:Program)(t:TypeId):List (Nat×AV)->List AV->Option (List AV)
 |[],cs=>some cs
 |(i,v)::rest,cs=>match A0U P t i with
  |some (off,ft)=>if A1n P ft=some v.cells.length then(putCells cs off v).bind (A1l P t rest)else none
  |none=>none
def A1g(sz:Nat):List (Nat×AV)->List (List AV)->Option (List (List AV))
 |[],rows=>some rows
 |(i,v)::rest,rows=>if v.storable&&decide (v.cells.length=sz)&&decide (i<rows.length)then A1g sz rest (rows.set i v.cells)else none
def A7K(len:Nat):Option AV->Option (Option Nat)
 |none=>some none
 |some m=>(A1s len (some m)).map some
def A8L(hh:Nat):Option AV->Option Nat
 |none=>some 0
 |some l=>A1s hh (some l)
def A4d(P:Program)(t:TypeId)(f g sz lo0 len:Nat)(lo hi mx:Option AV):Option AV:=
 match A7K len mx,A1b P t with
 |some m,some e=>if A1n P e=some sz then
  match A1s (m.getD len) hi,hi.isSome||mx.isNone with
  |some h,true=>match A8L h lo with
   |some l=>match m with
    |none=>some (.vref f g sz (lo0+l) (h-l))
    |some q=>if q=l then some (.list sz [] .full)else none
   |none=>none
  |_,_=>none
  else none
 |_,_=>none
def C8q(op:BinOp)(k:IntKind)(a b:Int):Option Value:=
 if b<0 then none else match op with
 |.shl=>some (.int k (k.wrap (a*2^(min b.toNat k.bits))))
 |.shr=>some (.int k (a.fdiv (2^(min b.toNat k.bits))))
 |_=>none
def A2P(P:Program)(eq:TypeId->AV->AV->Option Bool)(xs ys:List AV):List Field->Option Bool
 |[]=>some true
 |f::fs=>if f.name≠ "_" then
  if(A1n P f.type).any (λn=>decide (f.offset+n<=xs.length))&&(A1n P f.type).any (λn=>decide (f.offset+n<=ys.length))then
   match A0p P f.type (xs.drop f.offset),A0p P f.type (ys.drop f.offset)with
   |some a,some b=>match eq f.type a b with
    |some true=>A2P P eq xs ys fs
    |some false=>some false
    |none=>none
   |_,_=>none
  else none
  else A2P P eq xs ys fs
def B0m(P:Program):Nat->TypeId->AV->AV->Option Bool
 |0,_,_,_=>none
 |d+1,t,x,y=>match P.underlying t,x,y with
  |some .bool,.val (.bool a),.val (.bool b)=>some (a==b)
  |some (.int _),.val (.int k a),.val (.int k' b)=>if k=k' then some (a==b)else none
  |some .string,.val (.string a),.val (.string b)=>some (a.data.toList==b.data.toList)
  |some (.struct fs),.agg xs,.agg ys=>if P.stoodInHeld t then none else A2P P (B0m P d) xs ys fs.toList
  |_,_,_=>none
def A4B(P:Program)(op:BinOp)(t:TypeId)(x y:AV):Option AV:=
 match x,y with
 |.val (.int k a),.val (.int yk b)=>if k=yk then none else(C8q op k a b).map .val
 |.agg xs,.agg ys=>if P.eqGuardType P.depth t then none else match op,B0m P 30 t (.agg xs) (.agg ys)with
  |.eql,some b=>some (.val (.bool b))
  |.neq,some b=>some (.val (.bool !b))
  |_,_=>none
 |.vref _ _ _ _ _,.val (.slice none 0 0)=>match P.underlying t,op with
  |some (.slice _),.eql=>some (.val (.bool false))
  |some (.slice _),.neq=>some (.val (.bool true))
  |_,_=>none
 |_,_=>none
def A1K(P:Program)(op:BinOp)(t:TypeId)(x y:AV):Option AV:=match A3v P op t x y with
 |some v=>some v
 |none=>A4B P op t x y
def A5X(P:Program)(src dst:TypeId)(x:AV):Option AV:=match P.underlying src,P.underlying dst,x with
 |some (.int _),some (.int k),.val (.int _ n)=>some (.val (.int k (k.wrap n)))
 |some .string,some .string,.val (.string s)=>some (.val (.string s))
 |_,_,_=>none
def A3k(P:Program)(t:TypeId):AV->Option Nat
 |.val (.string s)=>match P.underlying t with|some .string=>some s.size|_=>none
 |.val (.slice none 0 0)=>match P.underlying t with|some (.slice _)=>some 0|_=>none
 |.val (.map none)=>match P.underlying t with|some (.map _ _)=>some 0|_=>none
 |.list _ rows _=>match P.underlying t with|some (.slice _)=>some rows.length|_=>none
 |.vref _ _ _ _ len=>match P.underlying t with|some (.slice _)=>some len|_=>none
 |_=>none
def A7J(mx:Bool):AV->AV->Option AV
 |.val (.int k a),.val (.int k' b)=>if k=k' then some (.val (.int k (if mx then(if b>a then b else a)else(if b<a then b else a))))else none
 |_,_=>none
def A8C(P:Program)(hint:Bool)(b:Builtin)(ts:Array TypeId)(args:List AV):Option AV:=
 match b,args with
 |.len,[x]=>match ts[0]? with
  |some t=>(A3k P t x).map λ(n:Nat)=>AV.val (goInt (n:Int))
  |none=>none
 |.max,[x,y]=>A7J true x y
 |.min,[x,y]=>A7J false x y
 |_,_=>none
def A1Q(P:Program)(t:TypeId)(x:AV)(lo hi mx:Option AV):Option AV:=match x with
 |.vref f g sz lo0 len=>A4d P t f g sz lo0 len lo hi mx
 |x=>A3S P t x lo hi mx
def B6E(C:Ctx)(h:A2r)(t:TypeId)(d:Option Nat):Bool:=A2e h.vec d&&!C.data t
def A0J(C:Ctx)(h:A2r)(o:Oper)(ρ:Operand->AV):Option AV:=
 match o.op with
 |.move x=>some (ρ x)
 |.assign x=>some (ρ x)
 |.pick c a b=>match ρ c with
  |.val (.bool t)=>some (if t then ρ a else ρ b)
  |_=>none
 |.box e x=>if A2e h.imm o.dst&&(ρ x).storable then some (.cptr (ρ x).cells)else none
 |.nilCheck x=>match ρ x with
  |.ptr b off=>some (.ptr b off)
  |.cptr cs=>some (.cptr cs)
  |.func (.func f) a c=>some (.func (.func f) a c)
  |.vptr f g off=>some (.vptr f g off)
  |_=>none
 |.binOp op t x y _=>A1K C.P op t (ρ x) (ρ y)
 |.unOp .not _ x=>match ρ x with
  |.val (.bool b)=>some (.val (.bool !b))
  |_=>none
 |.unOp .neg _ x=>match ρ x with
  |.val (.int k n)=>some (.val (.int k (k.wrap (0-n))))
  |_=>none
 |.fieldAddr t x f=>match A1H C.P t f,ρ x with
  |some k,.ptr b off=>some (.ptr b (off+k))
  |some k,.cptr cs=>some (.cptr (cs.drop k))
  |some k,.vptr f g off=>some (.vptr f g (off+k))
  |_,_=>none
 |.field t x f=>match A0U C.P t f,ρ x with
  |some (k,ft),.agg cs=>if(A1n C.P ft).any (λn=>decide (k+n<=cs.length))then A0p C.P ft (cs.drop k)else none
  |_,_=>none
 |.indexAddr t x ix=>match A1b C.P t,ρ x,ρ ix with
  |some e,.list sz rows _,.val (.int _ i)=>if A1n C.P e=some sz/\0<=i/\i<rows.length then some (.cptr (rows.getD i.toNat []))else none
  |some e,.vref f g sz lo len,.val (.int _ i)=>if A1n C.P e=some sz/\0<=i/\i<len then some (.vptr f g ((lo+i.toNat)*sz))else none
  |_,_,_=>none
 |.index t x ix=>match C.P.underlying t,ρ x,ρ ix with
  |some .string,.val (.string s),.val (.int _ i)=>if 0<=i/\i<s.size then some (.val (.int .u8 (s.data.getD i.toNat 0).toNat))else none
  |_,_,_=>none
 |.load t x=>match ρ x with
  |.cptr cs=>A0p C.P t cs
  |_=>none
 |.extract x i=>match ρ x with
  |.tuple vs=>vs[i]?
  |_=>none
 |.makeFunc fn f c=>some (.func fn (f.toList.map ρ) (c.toList.map ρ))
 |.slice t x lo hi mx=>A1Q C.P t (ρ x) (lo.map ρ) (hi.map ρ) (mx.map ρ)
 |.convert src dst x=>A5X C.P src dst (ρ x)
 |.build t parts=>match A0G C.P t,C.P.underlying t with
  |some z,some (.struct _)=>if !A3c C.P t||!z.all (·.oneCell')then none else(A1l C.P t (parts.toList.map λp=>(p.1,ρ p.2)) (z.map .val)).map .agg
  |_,_=>none
 |.buildSlice t n parts=>if B6E C h t o.dst then none else match A1b C.P t with
  |some e=>match A1n C.P e,A0G C.P e with
   |some sz,some z=>if n*sz<=2^24/\z.length=sz/\z.all (·.oneCell')/\0<sz then
    (A1g sz (parts.toList.map λp=>(p.1,ρ p.2)) (List.replicate n (z.map .val))).map λrows=>.list sz rows .full
    else none
   |_,_=>none
  |none=>none
 |.call {callee:=.builtin b,args,argTypes}=>A8C C.P (A2e h.own o.dst) b argTypes (args.toList.map ρ)
 |_=>none
def A3L{P}{s}{w w'}{v}(h:s.run P w=.ok v w'):(do pure (.value (<-s)):Sem Next).run P w=.ok (.value v) w':=by simp only[Z0E,h,Z0u,Z0O]
def D0I{P}{t:TypeId}{n}(h:A1n P t=some n):∃i,P.info? t=some i/\i.size=n:=by
 unfold A1n at h;cases hi:P.info? t with
 |none=>simp[hi]at h
 |some i=>simp[hi]at h;exact⟨i,rfl,h⟩
def B4T{P}{t:TypeId}{f k}(h:A1H P t f=some k)(a:Addr)(w:World):(Instr.fieldAt t (.pointer (some a)) f).run P w=.ok (.pointer (some (a.add k))) w:=by
 unfold A1H at h;split at h;case h_2=>simp at h
 rename_i fs hu;split at h;case h_2=>simp at h
 rename_i x hf;cases hs:A1n P x.type with
 |none=>simp[hs]at h
 |some n=>
  cases n with
  |zero=>simp[hs]at h
  |succ n=>simp[hs]at h;subst h;simp[Instr.fieldAt,Z0q hu,hf,Instr.sureAddr,fieldPlace,A1U hs]
def A6G{P}{G}{len n}{v}{x}(hr:Rep G v x)(h:A1s len (some v)=some n)(a:BoundsCode)(w:World):(Instr.sliceBound x len a).run P w=.ok n w/\n<=len:=by
 unfold A1s at h;split at h
 .rename_i h';simp at h'
 .rename_i k i h';simp at h';subst h';simp only[Rep]at hr;subst hr;split at h
  .rename_i hc;simp at h;subst h;exact⟨by simp[Instr.sliceBound,asIntOf,hc],Q0⟩
  .simp at h
 .simp at h
def B2G{P}{G}{len n y}{v}{x}(hr:Rep G v x)(h:A1s len (some v)=some n)(hy:len<=y)(a:BoundsCode)(w:World):(Instr.sliceBound x y a).run P w=.ok n w/\n<=len:=by
 unfold A1s at h;split at h
 .rename_i h';simp at h'
 .rename_i k i h';simp at h';subst h';simp only[Rep]at hr;subst hr;split at h
  .rename_i hc;simp at h;subst h;have b:0<=i/\i<=(y:Int):=⟨hc.1,Q0⟩;exact⟨by simp[Instr.sliceBound,asIntOf,b],Q0⟩
  .simp at h
 .simp at h
section
variable {C:Ctx} {G:A0q} {M:Mem} {w:World}
def B2X{len cap}(i:len<=cap){lo hi mx}{xlo xhi xmx}{m}{hh l}
 (g:∀a,lo=some a->∃x,xlo=some x/\Rep G a x)(p:lo=none->xlo=none)
 (o:∀a,hi=some a->∃x,xhi=some x/\Rep G a x)(n:hi=none->xhi=none)
 (s:∀a,mx=some a->∃x,xmx=some x/\Rep G a x)(j:mx=none->xmx=none)
 (hm:A7K len mx=some m)
 (d:A1s (m.getD len) hi=some hh)(hb:(hi.isSome||mx.isNone)=true)
 (hl:A8L hh lo=some l):
 ∃m',(Instr.sliceBounds true len cap xlo xhi xmx).run C.P w=.ok (l,hh,m') w/\l<=hh/\hh<=len/\hh<=m'/\m'<=cap/\(∀q,m=some q->m'=q)/\(m=none->m'=cap):=by
 unfold Instr.sliceBounds
 have e:∀(f:BoundsCode),l<=hh/\(lo=none->l=0)/\∀x,xlo=some x->(Instr.sliceBound x hh f).run C.P w=.ok l w:=by
  intro f;cases lo with
  |none=>simp only[A8L,Z0b]at hl;subst hl;exact⟨Z3H _,λ_=>rfl,λx hx=>by rw[p rfl]at hx;simp at hx⟩
  |some a=>obtain⟨x,hx,hr⟩:=g a rfl;have:=A6G (P:=C.P) hr hl f w;exact⟨this.2,λh=>by simp at h,λx' hx'=>by rw[hx]at hx';simp at hx';subst hx';exact this.1⟩
 cases mx with
 |none=>
  simp only[A7K,Z0b]at hm
  subst hm
  rw[j rfl]
  simp only[Option.getD_none]at d
  cases hi with
  |none=>
   rw[n rfl]
   simp[A1s]at d
   subst d
   obtain⟨h1,h2,h3⟩:=e .sliceB
   refine⟨cap,?_,h1,Z0j _,i,Z0j _,Q1,Q1⟩
   cases xlo with
   |none=>
    have:lo=none:=by
     cases lo with
     |none=>rfl
     |some a=>obtain⟨x,hx,_⟩:=g a rfl;simp at hx
    simp[h2 this]
   |some x=>simp[h3 x rfl]
  |some b=>
   obtain⟨y,rfl,hy⟩:=o b rfl
   have c:=B2G (P:=C.P) hy d i .sliceAcap w
   obtain⟨h1,h2,h3⟩:=e .sliceB
   refine⟨cap,?_,h1,c.2,Q0,Z0j _,Q1,Q1⟩
   cases xlo with
   |none=>
    have:lo=none:=by
     cases lo with
     |none=>rfl
     |some a=>obtain⟨x,hx,_⟩:=g a rfl;simp at hx
    simp[h2 this,c.1]
   |some x=>simp[h3 x rfl,c.1]
 |some q=>
  obtain⟨z,rfl,hz⟩:=s q rfl
  simp only[A7K,Z0l]at hm
  obtain⟨mm,r,rfl⟩:=hm
  have k:=B2G (P:=C.P) hz r i .slice3Acap w
  simp only[Z1m]at d
  cases hi with
  |none=>simp at hb
  |some b=>
   obtain⟨y,rfl,hy⟩:=o b rfl
   have c:=A6G (P:=C.P) hy d .slice3B w
   obtain⟨h1,h2,h3⟩:=e .slice3C
   refine⟨mm,?_,h1,Q0,c.2,Q0,Q1,Q1⟩
   cases xlo with
   |none=>
    have:lo=none:=by
     cases lo with
     |none=>rfl
     |some a=>obtain⟨x,hx,_⟩:=g a rfl;simp at hx
    simp[h2 this,c.1,k.1]
   |some x=>simp[h3 x rfl,c.1,k.1]
def A9W{sz}{rows}{own}{xv}(hx:Rep G (.list sz rows own) xv){t:TypeId}{lo hi mx}{xlo xhi xmx}{v}
 (y:∀a,lo=some a->∃x,xlo=some x/\Rep G a x)(p:lo=none->xlo=none)
 (r:∀a,hi=some a->∃x,xhi=some x/\Rep G a x)(j:hi=none->xhi=none)
 (q:∀a,mx=some a->∃x,xmx=some x/\Rep G a x)(i:mx=none->xmx=none)(h:A3Y C.P t sz rows own lo hi mx=some v):
 ∃u,(Instr.sliceAt t xv xlo xhi xmx).run C.P w=.ok u w/\Rep G v u/\(xv=.slice none 0 0->u=.slice none 0 0):=by
 simp only[A3Y]at h
 split at h
 case h_2=>simp at h
 rename_i m e hm he
 split at h
 case isFalse=>simp at h
 rename_i hsz
 split at h
 case h_2=>simp at h
 rename_i hh hhe hb
 split at h
 case h_2=>simp at h
 rename_i l hl
 simp at h
 subst h
 simp only[Rep]at hx
 obtain⟨base,cap,rfl,s,z,c,b⟩:=hx
 have d:=B2X (C:=C) (w:=w) (G:=G) s y p r j q i (by cases mx<;>exact hm) (by cases hi<;>exact hhe) hb (by cases lo<;>exact hl)
 obtain⟨m',n,q1,q2,q3,q4,q5,q6⟩:=d
 refine⟨.slice (if m'=l then base else base.map (·.add (l*sz))) (hh-l) (m'-l),?_,?_,λe=>?_⟩
 .simp[Instr.sliceAt,Instr.slice,Z0q (A2q he),n,A1U hsz]
 .refine A5C ZAB ZAB Q0 ?_ ?_
  .cases base with
   |none=>obtain⟨rfl,rfl⟩:=c;(have e0:(if m'=l then(none:Option Addr)else Option.map (λx:Addr=>x.add (l*sz)) none)=none:=by split<;>rfl);rw[e0];exact⟨Q1,Q0⟩
   |some a=>
    obtain⟨o,g⟩:=c;by_cases e1:m'=l
    .rw[Z0c e1];(have:(rows.take hh).drop l=[]:=by apply Z0w;simp;omega);rw[this];exact⟨λh=>absurd rfl h,by simp[A0F]⟩
    .rw[Z0d e1];by_cases e2:rows=[]
     .subst e2;simp only[Z1T,List.take_nil,List.drop_nil];exact⟨λh=>absurd rfl h,by simp[A0F]⟩
     have o:=o e2;(have ea:a.add (l*sz)=⟨a.block,a.off+l*sz,none⟩:=by(have ea:a=⟨a.block,a.off,none⟩:=by cases a;simp_all);rw[ea,Z1k]);simp only[Z1T,ea];exact⟨λ_=>rfl,(g.take hh).drop l⟩
  ·(have k:((rows.take hh).drop l).length=hh-l:=by simp;omega);rw[k]
   unfold A6H;cases m with
   |some mm=>
    have:=q5 mm rfl;simp only;split
    .simp only[A5v];omega
    .trivial
   |none=>
    have:=q6 rfl;subst this;simp only;cases own with
    |no=>trivial
    |full=>
     simp only[A5v]at b;simp only;split
     .simp only[A5v];omega
     .trivial
    |fam f=>
     simp only;split
     .rename_i hc;obtain⟨rfl,rfl⟩:=hc;simp only[A5v,Z4Q]at b|-;have e2:(if m'=0 then base else Option.map (λx=>x.add (0*sz)) base)=base:=by
       split
       .rfl
       .cases base with
        |none=>rfl
        |some a=>simp[Addr.add]
      rw[e2];exact b
     .trivial
 .simp only[Value.slice.injEq]at e;obtain⟨rfl,e1,rfl⟩:=e;have e2:(if m'=l then(none:Option Addr)else Option.map (λx:Addr=>x.add (l*sz)) none)=none:=by split<;>rfl
  rw[e2];have:hh-l=0:=Q0;have:m'-l=0:=Q0
  simp_all
def B3s{s}{t:TypeId}{lo hi}{xlo xhi}{v}(d:∀a,lo=some a->∃x,xlo=some x/\Rep G a x)(c:lo=none->xlo=none)
 (g:∀a,hi=some a->∃x,xhi=some x/\Rep G a x)(e:hi=none->xhi=none)(h:A3S C.P t (.val (.string s)) lo hi none=some v):
 ∃u,(Instr.sliceAt t (.string s) xlo xhi none).run C.P w=.ok u w/\Rep G v u:=by
 simp only[A3S]at h
 split at h
 case h_2=>simp at h
 rename_i h' _ hu hh
 split at h
 case h_2=>simp at h
 rename_i l hl
 simp at h
 subst h
 refine⟨.string (s.extract l h'),?_,ZAE⟩
 have e1:(Instr.sliceBounds false s.size s.size xlo xhi none).run C.P w=.ok (l,h',s.size) w:=by
  unfold Instr.sliceBounds;cases hi with
  |none=>
   rw[e rfl];simp[A1s]at hh;subst hh;cases lo with
   |none=>rw[c rfl];simp at hl;subst hl;simp
   |some a=>obtain⟨x,rfl,hx⟩:=d a rfl;have:=(A6G (P:=C.P) hx hl .sliceB w).1;simp[this]
  |some b=>
   obtain⟨y,rfl,hy⟩:=g b rfl;have f:=(A6G (P:=C.P) hy hh .sliceAlen w).1;cases lo with
   |none=>rw[c rfl];simp at hl;subst hl;simp[f]
   |some a=>obtain⟨x,rfl,hx⟩:=d a rfl;have:=(A6G (P:=C.P) hx hl .sliceB w).1;simp[f,this]
 simp[Instr.sliceAt,Instr.slice,Z0q hu,e1]
end
end Go.Abs
