/- A part of the proof. -/
import Derived.Test.YtjmjekcaifkboaaGreatDoorQG24
import Derived.Test.YtjmjekcaifkboaaGreatDoorQG21
import Derived.Shelf.RegionOpenPlain
import Derived.Lib.SliceRun
import Derived.Lib.Overlaps
import Derived.Lib.AppendZerosOnto
set_option linter.all false
set_option maxRecDepth 100000
namespace Go.Abs
open Go.Proofs Tryz Go.Shelf Go.RowKit Go.Lib TryTypes
def B2y{P:Program}(w:World){o:Oper}{a:Act}{K:Act->World->Prop}{Q:Exit->Act->World->Prop}(d s:Operand)(t t':TypeId)
 (ho:o.op=.call {callee:=.builtin .copy,args:=#[d,s],argTypes:=#[t,t']})(v u:Value)(hd:a.eval d=v)(hs:a.eval s=u){v':Value}{w':World}
 (hr:(Builtin.copy_ #[t,t'] o.type #[v,u]).run P w=.ok v' w')(h:K (a.put o.dst v') w'):o.wp P a w K Q:=by
 unfold Oper.wp execOp
 simp only[ho,resolve,invoke,builtin,Z0E,Z0O,Z0u,Z4r,Z0x,Z1N,hd,hs,hr]
 exact h
def A8T{P:Program}(w:World){ops:Array Oper}{b:List Oper}{o:Oper}{a:Act}{Q:Exit->Act->World->Prop}(c:o.guard=none)(d s:Operand)(t t':TypeId)
 (ho:o.op=.call {callee:=.builtin .copy,args:=#[d,s],argTypes:=#[t,t']})(v u:Value)(hd:a.eval d=v)(hs:a.eval s=u){v':Value}{w':World}
 (hr:(Builtin.copy_ #[t,t'] o.type #[v,u]).run P w=.ok v' w')(h:wpList P ops Q b (a.put o.dst v') w'):wpList P ops Q (o::b) a w:=
 wpList_plain c λ_ hK=>B2y w d s t t' ho v u hd hs hr (hK _ _ h)
def B0U{P:Program}{ops:Array Oper}{o:Oper}{a:Act}{w:World}{K:Act->World->Prop}{Q:Exit->Act->World->Prop}{E:Prop}
 (hg:o.guard=none)(d x:Operand)(dT sT:TypeId)(b:o.op=Op.call {callee:=Callee.builtin Builtin.copy,args:=#[d,x],argTypes:=#[dT,sT]})
 (v u:Value)(hd:a.eval d=v)(hx:a.eval x=u){v':Value}{w':World}(hr:(Builtin.copy_ #[dT,sT] o.type #[v,u]).run P w=.ok v' w')(hK:K (a.put o.dst v') w'):
 if Region.wanted o (yielded ops a.tmps)=true then Oper.wp P o a w K Q else E:=by
 rw[Z0c (by simp[Region.wanted,hg])]
 exact B2y w d x dT sT b v u hd hx hr hK
set_option maxHeartbeats 4000000 in
def D4w(b off n c i vb d m vc:Nat)(a k:Array Value)(tV:TypeId)(olds vs:List Value)(w:World)(hi:i<n)(hm:0<m)(a4:n+m<=c)(ac:c<=9223372036854775807)(z:vb≠b)
 (hB:w.heap[b]?=some (.cells a 31 (0,0)))(ad:off+c*8<=a.size)(l:olds=(a.toList.drop off).take (n*8))(a7:∀v∈olds,v.oneCell'=true)
 (hV:w.heap[vb]?=some (.cells k tV (0,0)))(a0:vs.length=m*8)(a8:∀j v,vs[j]?=some v->w.cell? ⟨vb,d+j,none⟩=some v)(a5:∀v∈vs,v.oneCell'=true):
 Calls prog 171 #[.slice (some ⟨b,off,none⟩) n c,.int .i64 i,.slice (some ⟨vb,d,none⟩) m vc] w λe w'=>e=.returned (.slice (some ⟨b,off,none⟩) (n+m) c)/\w'=(w.drew.setRow b (ow a.toList (off+(i*8+m*8)) (olds.drop (i*8))).toArray).setRow b (ow (ow a.toList (off+(i*8+m*8)) (olds.drop (i*8))) (off+i*8) vs).toArray:=by
 have af:¬((m:Int)=0):=Q0
 have ag:¬((i:Int)=(n:Int)):=Q0
 have f:A1n prog 31=some 8:=D0r
 have a6:∀w,(Go.sizeOf 31).run prog w=.ok 8 w:=A1U f
 have r:prog.underlying 25=some (.slice 31):=underlying25
 have aa:a.size≠0:=Q0
 have a3:∀o lb cb,(callFunc 247 #[.slice (some ⟨vb,d,none⟩) m vc,.slice (some ⟨b,o,none⟩) lb cb]).run prog w=.ok (.value (.bool false)) w:=λo lb cb=>by rw[run_callFunc_extern func247 Q2 Q2 Q2 (e:=Extern.SlicesOverlaps.overlaps #[25,25] #[4]) Q2,Lib.run_overlaps_apart w 25 4 31 r 8 a6 ⟨vb,d,none⟩ ⟨b,o,none⟩ m vc lb cb z tV 31 k.size a.size (by simp[World.shape?,hV]) (by simp[World.shape?,hB]) aa (by simp[World.frozen?,hV]) (by simp[World.frozen?,hV])];rfl
 have a9:olds.length=n*8:=by rw[l,Z0t,Z0G,Z0X];omega
 have s:(olds.drop (i*8)).length=(n-i)*8:=by rw[Z0G,a9];omega
 have ai:IntKind.i64.wrap ((i:Int)+(m:Int))=(i:Int)+(m:Int):=by rw[IntKind.wrap_i64];omega
 have al:(0:Int)<=(i:Int)+(m:Int):=Q0
 have ah:i<=n:=Q0
 have ae:((i:Int)+(m:Int)).toNat=i+m:=Q0
 have aj:¬(c=i+m):=Q0
 have am:(i:Int)<=(n:Int)+(m:Int):=Q0
 have ak:¬(c=i):=Q0
 have a1:w.drew.heap[b]?=some (.cells a 31 (0,0)):=hB
 have q:∀j v,olds[j]?=some v->w.cell? ⟨b,off+j,none⟩=some v:=λj v hj=>by
  rw[l,Z0B]at hj;split at hj
  .rw[Z0H]at hj;simp only[World.cell?,hB];simpa using hj
  .simp at hj
 have t:Nat.min (n+m-i) (n+m-(i+m))=n-i:=ZCQ
 have p:Nat.min m (n+m-i)=m:=ZCQ
 obtain⟨L1,g⟩:=ex (ow a.toList (off+(i*8+m*8)) (olds.drop (i*8)))
 have y:∀o ty dc sc,o=off+(i*8+m*8)->(Builtin.copy_ #[25,25] ty #[.slice (some ⟨b,o,none⟩) (n+m-(i+m)) dc,.slice (some ⟨b,off+i*8,none⟩) (n+m-i) sc]).run prog w.drew=.ok (goInt (n-i:Nat)) (w.drew.setRow b L1.toArray):=λo ty dc sc he=>by
  subst he;rw[g];exact A7X w.drew _ _ ty 31 31 8 b _ _ dc ⟨b,off+i*8,none⟩ _ sc (n-i) (olds.drop (i*8)) a r f t s
   (λj v hj=>by rw[Z1k,Z2F];exact q (i*8+j) v (by rwa[Z0H]at hj))
   a1 (by rw[s];omega) (λv hv=>a7 v (Z1w hv))
 have ab:L1.length=a.size:=by rw[g,B1h (by rw[s,Z0X];omega),Z0X]
 have a2:(w.drew.setRow b L1.toArray).heap[b]?=some (.cells L1.toArray 31 (0,0)):=Z2L w.drew b a L1.toArray 31 (0,0) a1
 have x:∀ty dc,(Builtin.copy_ #[25,25] ty #[.slice (some ⟨b,off+i*8,none⟩) (n+m-i) dc,.slice (some ⟨vb,d,none⟩) m vc]).run prog (w.drew.setRow b L1.toArray)=.ok (goInt m) ((w.drew.setRow b L1.toArray).setRow b (ow L1 (off+i*8) vs).toArray):=λty dc=>
  A7X (w.drew.setRow b L1.toArray) _ _ ty 31 31 8 b _ _ dc ⟨vb,d,none⟩ _ vc m vs L1.toArray r f p a0
   (λj v hj=>by rw[Z1k];have:=a8 j v hj;simp only[World.cell?]at this|-;rw[Z2o w.drew b vb _ z];exact this)
   a2 (by rw[a0];simp only[Z1r];omega) a5
 rw[<-g]
 have mixed:prog.follows .mixedOrders=true:=Q2
 have u:=λty dc sc=>y (off+(i+m)*8) ty dc sc Q0
 clear g l
 go_enter func171,ntmps171
 go_wp2_with (simp only[a3])
 go_region_law_o (refine B0U rfl _ _ 25 25 rfl _ _ ZDJ ZDJ (u _ _ _) ?_)
 go_wp2_with (at_builtin;refine A8T _ rfl _ _ 25 25 rfl _ _ rfl rfl (x _ _) ?_)
 go_ret
 first|exact⟨rfl,rfl⟩|trace_state
def C2U{P:Program}(w:World){o:Oper}{a:Act}{K:Act->World->Prop}{Q:Exit->Act->World->Prop}(d s:Operand)(t t':TypeId)
 (ho:o.op=.call {callee:=.builtin .append,args:=#[d,s],argTypes:=#[t,t']})(v u:Value)(hd:a.eval d=v)(hs:a.eval s=u){v':Value}{w':World}
 (hr:(Builtin.append_ #[t,t'] o.type #[v,u]).run P w=.ok v' w')(h:K (a.put o.dst v') w'):o.wp P a w K Q:=by
 unfold Oper.wp execOp
 simp only[ho,resolve,invoke,builtin,Z0E,Z0O,Z0u,Z4r,Z0x,Z1N,hd,hs,hr]
 exact h
def B5j{P:Program}(w:World){ops:Array Oper}{b:List Oper}{o:Oper}{a:Act}{Q:Exit->Act->World->Prop}(c:o.guard=none)(d s:Operand)(t t':TypeId)
 (ho:o.op=.call {callee:=.builtin .append,args:=#[d,s],argTypes:=#[t,t']})(v u:Value)(hd:a.eval d=v)(hs:a.eval s=u){v':Value}{w':World}
 (hr:(Builtin.append_ #[t,t'] o.type #[v,u]).run P w=.ok v' w')(h:wpList P ops Q b (a.put o.dst v') w'):wpList P ops Q (o::b) a w:=
 wpList_plain c λ_ hK=>C2U w d s t t' ho v u hd hs hr (hK _ _ h)
set_option maxHeartbeats 4000000 in
def D3j(b off n c i vb d m vc:Nat)(t a5:Array Value)(tV:TypeId)(olds vs:List Value)(w:World)(hi:i<n)(hm:0<m)(az:n<=c)(a0:c<n+m)(ab:(n+m)*120<=140737488355328)
 (hB:w.heap[b]?=some (.cells t 31 (0,0)))(ar:off+c*8<=t.size)(x:olds=(t.toList.drop off).take (n*8))(ah:∀v∈olds,v.oneCell'=true)
 (hV:w.heap[vb]?=some (.cells a5 tV (0,0)))(y:vs.length=m*8)(ak:∀j v,vs[j]?=some v->w.cell? ⟨vb,d+j,none⟩=some v)(ao:∀v∈vs,v.oneCell'=true):
 ∃R:List Value,R.length=grownCap w (n+m) c 31*8/\(∀k,k<i*8->R[k]?=olds[k]?)/\Calls prog 171 #[.slice (some ⟨b,off,none⟩) n c,.int .i64 i,.slice (some ⟨vb,d,none⟩) m vc] w λe w'=>
  e=.returned (.slice (some ⟨w.heap.size,0,none⟩) (n+m) (grownCap w (n+m) c 31))/\
  w'=(((w.drew.alloc (.cells R.toArray 31)).setRow w.heap.size (ow R (i*8) vs).toArray).drew).setRow w.heap.size (ow (ow R (i*8) vs) (i*8+m*8) (olds.drop (i*8))).toArray:=by
 have b3:¬((m:Int)=0):=Q0
 have ay:¬((i:Int)=(n:Int)):=Q0
 have b1:(c:Int)<(n:Int)+(m:Int):=Q0
 have q:A1n prog 31=some 8:=D0r
 have a2:prog.underlying 25=some (.slice 31):=underlying25
 have u3:prog.underlying 3=some (.int .i64):=underlying3
 obtain⟨i0,z,al,am,aj,a7,ai,_⟩:=B1H
 have ae:olds.length=n*8:=by rw[x,Z0t,Z0G,Z0X];omega
 have ac:(olds.drop (i*8)).length=(n-i)*8:=by rw[Z0G,ae];omega
 have a9:(olds.take (i*8)).length=i*8:=by rw[Z0t,ae];omega
 have af:b<w.heap.size:=A4x hB
 have an:vb<w.heap.size:=A4x hV
 have a6:(n:Int)+(m:Int)-(i:Int)=((n+m-i:Nat):Int):=Q0
 have a1:i+(n+m-i)=n+m:=Q0
 have g:∀j v,olds[j]?=some v->w.cell? ⟨b,off+j,none⟩=some v:=λj v hj=>by
  rw[x,Z0B]at hj;split at hj
  .rw[Z0H]at hj;simp only[World.cell?,hB];simpa using hj
  .simp at hj
 have r:(Builtin.firstCells i0.size i (.slice (some ⟨b,off,none⟩) i c)).run prog w.drew=.ok (olds.take (i*8)).toArray w.drew:=by
  rw[aj];exact Z2l w.drew 8 i ⟨b,off,none⟩ i c (olds.take (i*8)) a9 (λj v hj=>by
   rw[Z1k];rw[Z0B]at hj;split at hj
   .exact g j v hj
   .simp at hj)
 obtain⟨Gc,hG⟩:=ex (grownCap w (n+m) c 31)
 have b5:n+m<=Gc:=by rw[hG];exact Z3F w _ _ _
 have ag:n+m<=maxLen:=by unfold maxLen;omega
 have aw:Gc<=9223372036854775807:=by have:=Z2P w (n+m) c 31 ag;rw[<-hG]at this;simpa[maxLen]using this
 obtain⟨R,hR⟩:∃R:List Value,R.toArray=(olds.take (i*8)).toArray++Builtin.zeroCells z.cells (n+m-i)++Builtin.zeroCells z.cells (Gc-(n+m)):=⟨((olds.take (i*8)).toArray++Builtin.zeroCells z.cells (n+m-i)++Builtin.zeroCells z.cells (Gc-(n+m))).toList,Q1⟩
 have hRl:R.length=Gc*8:=by have:=congrArg Array.size hR;simp only[Z1r,Z3C,Z4b,ai,a9]at this;omega
 have ap:∀k,k<i*8->R[k]?=olds[k]?:=λk hk=>by have:=congrArg (λa:Array Value=>a.toList[k]?) hR;simp only[Array.toList_append]at this;rw[this,Z0F,Z0o (by simpa using(by omega:k<(olds.take (i*8)).length)),Z0B,Z0c hk]
 have aa:∀ty,(Builtin.append_ #[25,3] ty #[.slice (some ⟨b,off,none⟩) i c,.int .i64 ((n:Int)+(m:Int)-(i:Int))]).run prog w=
  .ok (.slice (some ⟨w.heap.size,0,none⟩) (n+m) Gc) (w.drew.alloc (.cells R.toArray 31)):=λty=>by
  have h:=Lib.run_append_grow_zeros w 25 3 ty 31 i0 z .i64 .i64 a2 u3 al am (some ⟨b,off,none⟩) i c (olds.take (i*8)) r (n+m-i) Q0 Q0 Q0 Q0 (by rw[a7];omega) (by rw[a7,a1];exact growslice_fits a0 ab)
  rw[a1]at h
  rw[a6,h,hR,hG]
 have ad:grownCap w (n+m) c 31=Gc:=hG.symm
 rw[ad]
 refine⟨R,hRl,ap,?_⟩
 obtain⟨W1,l⟩:=ex (w.drew.alloc (.cells R.toArray 31))
 rw[<-l]at aa|-
 have hN:W1.heap[w.heap.size]?=some (.cells R.toArray 31 (0,0)):=by rw[l];exact Z1Z w.drew _
 have f:∀b',b'<w.heap.size->W1.heap[b']?=w.heap[b']?:=λb' h=>by rw[l];exact A2N w.drew _ b' h
 have a3:Nat.min m (n+m-i)=m:=ZCQ
 have s:Nat.min (n-i) (n+m-(i+m))=n-i:=ZCQ
 obtain⟨L1,p⟩:=ex (ow R (i*8) vs)
 rw[<-p]
 have au:L1.length=Gc*8:=by rw[p,B1h (by rw[y,hRl];omega),hRl]
 have a8:∀ty dc,(Builtin.copy_ #[25,25] ty #[.slice (some ⟨w.heap.size,i*8,none⟩) (n+m-i) dc,.slice (some ⟨vb,d,none⟩) m vc]).run prog W1=.ok (goInt m) (W1.setRow w.heap.size L1.toArray):=λty dc=>by
  rw[p];exact A7X W1 _ _ ty 31 31 8 w.heap.size _ _ dc ⟨vb,d,none⟩ _ vc m vs R.toArray a2 q a3 y
   (λj v hj=>by rw[Z1k];have:=ak j v hj;simp only[World.cell?]at this|-;rw[f vb an];exact this)
   hN (by rw[y];simp only[Z1r];omega) ao
 have aq:((W1.setRow w.heap.size L1.toArray).drew).heap[w.heap.size]?=some (.cells L1.toArray 31 (0,0)):=Z2L W1 w.heap.size R.toArray L1.toArray 31 (0,0) hN
 have a4:∀o ty dc sc,o=i*8+m*8->(Builtin.copy_ #[25,25] ty #[.slice (some ⟨w.heap.size,o,none⟩) (n+m-(i+m)) dc,.slice (some ⟨b,off+i*8,none⟩) (n-i) sc]).run prog ((W1.setRow w.heap.size L1.toArray).drew)=.ok (goInt (n-i:Nat)) (((W1.setRow w.heap.size L1.toArray).drew).setRow w.heap.size (ow L1 (i*8+m*8) (olds.drop (i*8))).toArray):=λo ty dc sc he=>by
  subst he;exact A7X ((W1.setRow w.heap.size L1.toArray).drew) _ _ ty 31 31 8 w.heap.size _ _ dc ⟨b,off+i*8,none⟩ _ sc (n-i) (olds.drop (i*8)) L1.toArray a2 q s ac
   (λj v hj=>by rw[Z1k,Z2F];have:=g (i*8+j) v (by rwa[Z0H]at hj);simp only[World.cell?]at this|-;rw[show((W1.setRow w.heap.size L1.toArray).drew).heap[b]?=w.heap[b]? from(Z2o W1 w.heap.size b _ Q0).trans (f b af)];exact this)
   aq (by rw[ac];simp only[Z1r];omega) (λv hv=>ah v (Z1w hv))
 have mixed:prog.follows .mixedOrders=true:=Q2
 have u:=λty dc sc=>a4 ((i+m)*8) ty dc sc Q0
 have b2:¬(Gc=i):=Q0
 have av:¬(Gc=i+m):=Q0
 have b6:¬(c=i):=Q0
 have b0:IntKind.i64.wrap ((i:Int)+(m:Int))=(i:Int)+(m:Int):=by rw[IntKind.wrap_i64];omega
 have b7:(0:Int)<=(i:Int)+(m:Int):=Q0
 have b4:i<=n:=Q0
 have ax:((i:Int)+(m:Int)).toNat=i+m:=Q0
 have b8:(i:Int)<=(n:Int):=Q0
 clear a6 a1 r hR hG ad hRl p l x
 go_enter func171,ntmps171
 go_wp2_with (first
  |(at_builtin;refine B5j _ rfl _ _ _ _ rfl _ _ rfl rfl (aa _) ?_)
  |(at_builtin;refine A8T _ rfl _ _ 25 25 rfl _ _ rfl rfl (a8 _ _) ?_))
 go_region_law_o (refine B0U rfl _ _ 25 25 rfl (.slice (some ⟨w.heap.size,(i+m)*8,none⟩) (n+m-(i+m)) (Gc-(i+m))) (.slice (some ⟨b,off+i*8,none⟩) (n-i) (c-i)) ZDJ ZDJ (u _ _ _) ?_)
 go_wp2
 go_ret
 exact⟨rfl,rfl⟩
end Go.Abs
