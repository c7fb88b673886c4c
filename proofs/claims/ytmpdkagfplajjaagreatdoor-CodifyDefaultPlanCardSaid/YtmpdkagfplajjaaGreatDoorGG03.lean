/- The texts AbsI, AbsJ, AbsX1, SoA. -/
import Derived.Test.YtmpdkagfplajjaaGreatDoorGG02
import Derived.Test.YtmpdkagfplajjaaGreatDoorGG01
set_option linter.all false
namespace Go.Abs
def A3Q{P}{s}{w w'}{v}(h:s.run P w=.ok v w'):(do pure (.value (<-s)):Sem Next).run P w=.ok (.value v) w':=by simp only[Z0F,h,Z0w,Z0O]
def D2t{P}{t:TypeId}{n}(h:A1t P t=some n):∃i,P.info? t=some i/\i.size=n:=by
 unfold A1t at h;cases hi:P.info? t with
 |none=>simp[hi]at h
 |some i=>simp[hi]at h;exact⟨i,rfl,h⟩
def B5I{P}{t:TypeId}{f k}(h:A1y P t f=some k)(a:Addr)(w:World):(Instr.fieldAt t (.pointer (some a)) f).run P w=.ok (.pointer (some (a.add k))) w:=by
 unfold A1y at h;split at h;case h_2=>simp at h
 rename_i fs hu;split at h;case h_2=>simp at h
 rename_i x hf;cases hs:A1t P x.type with
 |none=>simp[hs]at h
 |some n=>
  cases n with
  |zero=>simp[hs]at h
  |succ n=>simp[hs]at h;subst h;simp[Instr.fieldAt,Z0p hu,hf,Instr.sureAddr,fieldPlace,A2f hs]
def A6K{P}{G}{len n}{v}{x}(hr:Rep G v x)(h:A1K len (some v)=some n)(a:BoundsCode)(w:World):(Instr.sliceBound x len a).run P w=.ok n w/\n<=len:=by
 unfold A1K at h;split at h
 .rename_i h';simp at h'
 .rename_i k i h';simp at h';subst h';simp only[Rep]at hr;subst hr;split at h
  .rename_i hc;simp at h;subst h;exact⟨by simp[Instr.sliceBound,asIntOf,hc],by omega⟩
  .simp at h
 .simp at h
def B3t{P}{G}{len n y}{v}{x}(hr:Rep G v x)(h:A1K len (some v)=some n)(hy:len<=y)(a:BoundsCode)(w:World):(Instr.sliceBound x y a).run P w=.ok n w/\n<=len:=by
 unfold A1K at h;split at h
 .rename_i h';simp at h'
 .rename_i k i h';simp at h';subst h';simp only[Rep]at hr;subst hr;split at h
  .rename_i hc;simp at h;subst h;have b:0<=i/\i<=(y:Int):=⟨hc.1,by omega⟩;exact⟨by simp[Instr.sliceBound,asIntOf,b],by omega⟩
  .simp at h
 .simp at h
section
variable {C:Ctx} {G:A0r} {M:Mem} {w:World}
def B3I{len cap}(i:len<=cap){lo hi mx}{xlo xhi xmx}{m}{hh l}
 (g:∀a,lo=some a->∃x,xlo=some x/\Rep G a x)(p:lo=none->xlo=none)
 (o:∀a,hi=some a->∃x,xhi=some x/\Rep G a x)(n:hi=none->xhi=none)
 (s:∀a,mx=some a->∃x,xmx=some x/\Rep G a x)(j:mx=none->xmx=none)
 (hm:A9Z len mx=some m)
 (d:A1K (m.getD len) hi=some hh)(hb:(hi.isSome||mx.isNone)=true)
 (hl:B1D hh lo=some l):
 ∃m',(Instr.sliceBounds true len cap xlo xhi xmx).run C.P w=.ok (l,hh,m') w/\l<=hh/\hh<=len/\hh<=m'/\m'<=cap/\(∀q,m=some q->m'=q)/\(m=none->m'=cap):=by
 unfold Instr.sliceBounds
 have e:∀(f:BoundsCode),l<=hh/\(lo=none->l=0)/\∀x,xlo=some x->(Instr.sliceBound x hh f).run C.P w=.ok l w:=by
  intro f;cases lo with
  |none=>simp only[B1D,Z0b]at hl;subst hl;exact⟨Z2S _,λ_=>rfl,λx hx=>by rw[p rfl]at hx;simp at hx⟩
  |some a=>obtain⟨x,hx,hr⟩:=g a rfl;have:=A6K (P:=C.P) hr hl f w;exact⟨this.2,λh=>by simp at h,λx' hx'=>by rw[hx]at hx';simp at hx';subst hx';exact this.1⟩
 cases mx with
 |none=>
  simp only[A9Z,Z0b]at hm
  subst hm
  rw[j rfl]
  simp only[Z3C]at d
  cases hi with
  |none=>
   rw[n rfl]
   simp[A1K]at d
   subst d
   obtain⟨h1,h2,h3⟩:=e .sliceB
   refine⟨cap,?_,h1,Z0n _,i,Z0n _,by simp,by simp⟩
   cases xlo with
   |none=>
    have:lo=none:=by
     cases lo with
     |none=>rfl
     |some a=>obtain⟨x,hx,_⟩:=g a rfl;simp at hx
    simp[h2 this]
   |some x=>simp[h3 x rfl]
  |some b=>
   obtain⟨y,rfl,hy⟩:=o b rfl
   have c:=B3t (P:=C.P) hy d i .sliceAcap w
   obtain⟨h1,h2,h3⟩:=e .sliceB
   refine⟨cap,?_,h1,c.2,by omega,Z0n _,by simp,by simp⟩
   cases xlo with
   |none=>
    have:lo=none:=by
     cases lo with
     |none=>rfl
     |some a=>obtain⟨x,hx,_⟩:=g a rfl;simp at hx
    simp[h2 this,c.1]
   |some x=>simp[h3 x rfl,c.1]
 |some q=>
  obtain⟨z,rfl,hz⟩:=s q rfl
  simp only[A9Z,Z0j]at hm
  obtain⟨mm,r,rfl⟩:=hm
  have k:=B3t (P:=C.P) hz r i .slice3Acap w
  simp only[Z1y]at d
  cases hi with
  |none=>simp at hb
  |some b=>
   obtain⟨y,rfl,hy⟩:=o b rfl
   have c:=A6K (P:=C.P) hy d .slice3B w
   obtain⟨h1,h2,h3⟩:=e .slice3C
   refine⟨mm,?_,h1,by omega,c.2,by omega,by simp,by simp⟩
   cases xlo with
   |none=>
    have:lo=none:=by
     cases lo with
     |none=>rfl
     |some a=>obtain⟨x,hx,_⟩:=g a rfl;simp at hx
    simp[h2 this,c.1,k.1]
   |some x=>simp[h3 x rfl,c.1,k.1]
def B0s{sz}{rows}{own}{xv}(hx:Rep G (.list sz rows own) xv){t:TypeId}{lo hi mx}{xlo xhi xmx}{v}
 (y:∀a,lo=some a->∃x,xlo=some x/\Rep G a x)(p:lo=none->xlo=none)
 (r:∀a,hi=some a->∃x,xhi=some x/\Rep G a x)(j:hi=none->xhi=none)
 (q:∀a,mx=some a->∃x,xmx=some x/\Rep G a x)(i:mx=none->xmx=none)(h:A4l C.P t sz rows own lo hi mx=some v):
 ∃u,(Instr.sliceAt t xv xlo xhi xmx).run C.P w=.ok u w/\Rep G v u/\(xv=.slice none 0 0->u=.slice none 0 0):=by
 simp only[A4l]at h
 split at h
 case h_2=>simp at h
 rename_i m e hm he
 split at h
 case isFalse=>simp at h
 rename_i hsz
 split at h
 case h_2=>simp at h
 rename_i hh hhe hb
 split at h
 case h_2=>simp at h
 rename_i l hl
 simp at h
 subst h
 simp only[Rep]at hx
 obtain⟨base,cap,rfl,s,z,c,b⟩:=hx
 have d:=B3I (C:=C) (w:=w) (G:=G) s y p r j q i (by cases mx<;>exact hm) (by cases hi<;>exact hhe) hb (by cases lo<;>exact hl)
 obtain⟨m',n,q1,q2,q3,q4,q5,q6⟩:=d
 refine⟨.slice (if m'=l then base else base.map (·.add (l*sz))) (hh-l) (m'-l),?_,?_,λe=>?_⟩
 .simp[Instr.sliceAt,Instr.slice,Z0p (A2w he),n,A2f hsz]
 .refine A5P (by simp;omega) (by simp;omega) (by omega) ?_ ?_
  .cases base with
   |none=>obtain⟨rfl,rfl⟩:=c;(have e0:(if m'=l then(none:Option Addr)else Option.map (λx:Addr=>x.add (l*sz)) none)=none:=by split<;>rfl);rw[e0];exact⟨by simp,by omega⟩
   |some a=>
    obtain⟨o,g⟩:=c;by_cases e1:m'=l
    .rw[Z0d e1];(have:(rows.take hh).drop l=[]:=by apply Z0z;simp;omega);rw[this];exact⟨λh=>absurd rfl h,by simp[A0D]⟩
    .rw[Z0c e1];by_cases e2:rows=[]
     .subst e2;simp only[Z1f,List.take_nil,Z4D];exact⟨λh=>absurd rfl h,by simp[A0D]⟩
     have o:=o e2;(have ea:a.add (l*sz)=⟨a.block,a.off+l*sz,none⟩:=by(have ea:a=⟨a.block,a.off,none⟩:=by cases a;simp_all);rw[ea,Z1C]);simp only[Z1f,ea];exact⟨λ_=>rfl,(g.take hh).drop l⟩
  ·(have k:((rows.take hh).drop l).length=hh-l:=by simp;omega);rw[k]
   unfold B0o;cases m with
   |some mm=>
    have:=q5 mm rfl;simp only;split
    .simp only[A5G];omega
    .trivial
   |none=>
    have:=q6 rfl;subst this;simp only;cases own with
    |no=>trivial
    |full=>
     simp only[A5G]at b;simp only;split
     .simp only[A5G];omega
     .trivial
    |fam f=>
     simp only;split
     .rename_i hc;obtain⟨rfl,rfl⟩:=hc;simp only[A5G,Nat.sub_zero]at b|-;have e2:(if m'=0 then base else Option.map (λx=>x.add (0*sz)) base)=base:=by
       split
       .rfl
       .cases base with
        |none=>rfl
        |some a=>simp[Addr.add]
      rw[e2];exact b
     .trivial
 .simp only[Value.slice.injEq]at e;obtain⟨rfl,e1,rfl⟩:=e;have e2:(if m'=l then(none:Option Addr)else Option.map (λx:Addr=>x.add (l*sz)) none)=none:=by split<;>rfl
  rw[e2];have:hh-l=0:=by omega
  have:m'-l=0:=by omega
  simp_all
def B4g{s}{t:TypeId}{lo hi}{xlo xhi}{v}(d:∀a,lo=some a->∃x,xlo=some x/\Rep G a x)(c:lo=none->xlo=none)
 (g:∀a,hi=some a->∃x,xhi=some x/\Rep G a x)(e:hi=none->xhi=none)(h:A4d C.P t (.val (.string s)) lo hi none=some v):
 ∃u,(Instr.sliceAt t (.string s) xlo xhi none).run C.P w=.ok u w/\Rep G v u:=by
 simp only[A4d]at h
 split at h
 case h_2=>simp at h
 rename_i h' _ hu hh
 split at h
 case h_2=>simp at h
 rename_i l hl
 simp at h
 subst h
 refine⟨.string (s.extract l h'),?_,by simp[Rep]⟩
 have e1:(Instr.sliceBounds false s.size s.size xlo xhi none).run C.P w=.ok (l,h',s.size) w:=by
  unfold Instr.sliceBounds;cases hi with
  |none=>
   rw[e rfl];simp[A1K]at hh;subst hh;cases lo with
   |none=>rw[c rfl];simp at hl;subst hl;simp
   |some a=>obtain⟨x,rfl,hx⟩:=d a rfl;have:=(A6K (P:=C.P) hx hl .sliceB w).1;simp[this]
  |some b=>
   obtain⟨y,rfl,hy⟩:=g b rfl;have f:=(A6K (P:=C.P) hy hh .sliceAlen w).1;cases lo with
   |none=>rw[c rfl];simp at hl;subst hl;simp[f]
   |some a=>obtain⟨x,rfl,hx⟩:=d a rfl;have:=(A6K (P:=C.P) hx hl .sliceB w).1;simp[f,this]
 simp[Instr.sliceAt,Instr.slice,Z0p hu,e1]
end
section
variable {C:Ctx} {G:A0r} {M:Mem} {w:World}
def A8y{ys}{cs}(hr:A0u G cs ys.toList)(h1:∀y∈ys.toList,y.oneCell'=true){ft:TypeId}{k}{v}(a:(A1t C.P ft).any (λn=>decide (k+n<=cs.length))=true)
 (h:A1x C.P ft (cs.drop k)=some v):∃u,(part ft ys k).run C.P w=.ok u w/\Rep G v u:=by
 have d:=hr.length
 unfold A1x at h
 split at h
 .rename_i n ha hs;split at h
  .rename_i hle;simp at h;subst h;simp[hs]at a;refine⟨.agg (ys.extract k (k+n)),by simp[part,B2Y ha,A2f hs],?_⟩;simp only[Rep];refine⟨_,rfl,?_,λy hy=>h1 y ?_⟩
   ·(have:(ys.extract k (k+n)).toList=(ys.toList.drop k).take n:=by simp[List.take_drop]);rw[this]
    exact(hr.drop k).take n
   ·(have:(ys.extract k (k+n)).toList=(ys.toList.drop k).take n:=by simp[List.take_drop]);rw[this]at hy
    exact Z1u (Z1n hy)
  .simp at h
 .rename_i n ha hs;split at h
  .rename_i c rest hd;simp at h;subst h;(have hc:cs[k]?=some c:=by(have:(cs.drop k)[0]?=some c:=by rw[hd];rfl);simpa using this);obtain⟨y,hy,b⟩:=hr.get hc;(have:ys[k]?=some y:=by simpa using hy);exact⟨y,by simp[part,B2Y ha,this],b⟩
  .simp at h
 .simp at h
def C2Y(a:Nat->Option (Nat×Nat))(cells:Array Value)(i off b:Nat)(v:Value)(c:List (Nat×Value))(hp:a i=some (off,b))(hs:v.cells.size=b)(hf:off+v.cells.size<=cells.size):Instr.fill a cells ((i,v)::c)=Instr.fill a (cells.toList.take off++v.cells.toList++cells.toList.drop (off+v.cells.size)).toArray c:=by
 simp only[Instr.fill,hp]
 rw[Z0c (by simp[hs];omega)]
 congr 1
 have d:∀(l:List Value) (s:Nat) (cs:Array Value),off+s+l.length<=cs.size->
  (l.zipIdx s).foldl (λcs (x:Value×Nat)=>cs.setIfInBounds (off+x.2) x.1) cs=(cs.toList.take (off+s)++l++cs.toList.drop (off+s+l.length)).toArray:=by
  intro l
  induction l with
  |nil=>intro s cs _;apply Z1N;simp
  |cons x l ih=>
   intro s cs e
   simp only[Z0x]at e
   simp only[List.zipIdx_cons,Z4p]
   rw[ih (s+1) (cs.setIfInBounds (off+s) x) (by simp;omega)]
   apply Z1N
   simp only[Array.toList_setIfInBounds]
   apply Z1L
   intro j
   simp only[Z0Z,Z0N,Z1d,Z2A,Z0E,Z1W,Z1F,Z0r,Z0x,List.getElem?_cons]
   by_cases h1:j<off+s
   ·(have:¬(off+s=j):=by omega);simp[h1,this]
    grind
   .by_cases h2:j=off+s
    .subst h2;simp;grind
    .grind
 have:=d v.cells.toList 0 cells (by simpa using hf)
 simp only[Z0U]at this
 rw[<-Array.foldl_toList]
 simpa using this
def B3p{α β:Type}(P:Program)(f:α->Sem β)(g:α->β)(w:World):∀(l:List α),(∀x∈l,(f x).run P w=.ok (g x) w)->(l.mapM f).run P w=.ok (l.map g) w
 |[],_=>by simp
 |x::l,h=>by have h1:=h x (by simp);have h2:=B3p P f g w l (λy hy=>h y (by simp[hy]));simp[Z3v,h1,h2]
def D6x{α β:Type}(P:Program)(f:α->Sem β)(g:α->β)(w:World)(a:Array α)(h:∀x∈a.toList,(f x).run P w=.ok (g x) w):(a.mapM f).run P w=.ok (a.map g) w:=by
 have h1:=B3p P f g w a.toList h;have e:a.mapM f=(List.toArray <$> a.toList.mapM f):=by simp[Z4a]
 rw[e,Sem.run_map,h1];simp only[Z0w];congr 1;apply Z1N;simp
def B8f{t:TypeId}{fs}(hu:C.P.underlying t=some (.struct fs))(a:Nat->Option (Nat×Nat))
 (hp:∀i off ft n,A0P C.P t i=some (off,ft)->A1t C.P ft=some n->a i=some (off,n)):
 ∀(ps:List (Nat×AV)) (xs:List (Nat×Value)) (cs c:List AV) (vs:Array Value),ps.length=xs.length->(∀(j:Nat) (p:Nat×AV) (x:Nat×Value),ps[j]?=some p->xs[j]?=some x->p.1=x.1/\Rep G p.2 x.2)->
  A0u G cs vs.toList->(∀y∈vs.toList,y.oneCell'=true)->A1e C.P t ps cs=some c->
  ∃vs':Array Value,Instr.fill a vs xs=some vs'/\A0u G c vs'.toList/\∀y∈vs'.toList,y.oneCell'=true
 |[],xs,cs,c,vs,hl,_,hr,h1,h=>by have:xs=[]:=Z0z (by simpa using hl.symm);subst this;simp[A1e]at h;subst h;exact⟨vs,by simp[Instr.fill],hr,h1⟩
 |(i,v)::ps,[],_,_,_,hl,_,_,_,_=>by simp at hl
 |(i,v)::ps,(i',x)::xs,cs,c,vs,hl,hps,hr,h1,h=>by
  obtain⟨rfl,hx⟩:=hps 0 _ _ rfl rfl;simp only at hx;simp only[A1e]at h;split at h;case h_2=>simp at h
  rename_i off ft hf;split at h;case isFalse=>simp at h
  rename_i hsz;simp only[Z1X]at h;obtain⟨r,b,o⟩:=h;unfold A1r at b;split at b;case isFalse=>simp at b
  rename_i hc;simp only[Z0g,Z0l]at hc;simp only[Z0b]at b;subst b;obtain⟨g,k⟩:=hx.cells hc.1;have q:=g.length;have l:=hr.length;have m:=hp i off ft _ hf hsz;have d:x.cells.size=v.cells.length:=by simpa using q
  have f:=C2Y a vs i off v.cells.length x xs m d (by simp at l;omega);simp only;rw[f];have e:x.cells.size=x.cells.toList.length:=by simp
  refine B8f hu a hp ps xs _ c _ (by simpa using hl) (λj p y hp' hy=>hps (j+1) p y (by simpa using hp') (by simpa using hy)) ?_ ?_ o
  .simp only[d];exact((hr.take off).append g).append (hr.drop _)
  .intro y hy;simp only[Z0P]at hy;rcases hy with(hy|hy)|hy
   .exact h1 y (Z1n hy)
   .exact k y hy
   .exact h1 y (Z1u hy)
def B0m{P}{t:TypeId}{z}(h:A0F P t=some z)(G:A0r)(w:World):∃v:Value,(zeroValue t).run P w=.ok v w/\v.cells.toList=z/\A0u G (z.map .val) z:=by
 unfold A0F at h;split at h;case h_2=>simp at h
 rename_i i hi;simp only[Z0j]at h;obtain⟨v,hv,rfl⟩:=h;refine⟨v,by simp[zeroValue,typeInfo,hi,hv],rfl,?_⟩;generalize v.cells.toList=l;induction l with
 |nil=>simp[A0u]
 |cons x l ih=>simp only[Z0s,A0u];exact⟨x,l,rfl,by simp[Rep],ih⟩
def C7z{t:TypeId}{fs}(hu:C.P.underlying t=some (.struct fs))(a:A2K C.P t=true){z}(hz:A0F C.P t=some z)(d:z.all (·.oneCell')=true)
 {ps}{xs}(hl:ps.length=xs.size)(c:∀(j:Nat) (p:Nat×AV) (x:Nat×Value),ps[j]?=some p->xs.toList[j]?=some x->p.1=x.1/\Rep G p.2 x.2){cs}(h:A1e C.P t ps (z.map .val)=some cs):
 ∃u,(Instr.build t xs).run C.P w=.ok u w/\Rep G (.agg cs) u:=by
 obtain⟨v,hv,b,e⟩:=B0m (P:=C.P) hz G w
 unfold A2K at a
 rw[hu]at a
 have a:=Z0u.1 a
 have hm:(fs.mapM λf=>(do pure (f.offset,<-sizeOf f.type):Sem (Nat×Nat))).run C.P w=.ok (fs.map λf=>(f.offset,(A1t C.P f.type).getD 0)) w:=by
  refine D6x _ _ _ _ _ (λf hf=>?_);have:=a f hf;cases hs:A1t C.P f.type with
  |none=>simp[hs]at this
  |some n=>simp[A2f hs]
 obtain⟨vs',hf,hr,h1⟩:=B8f (C:=C) (G:=G) hu (λi=>(fs.map λf=>(f.offset,(A1t C.P f.type).getD 0))[i]?) (λi off ft n hfo hs=>by simp only[A0P,hu,Z0j]at hfo;obtain⟨x,hx,he⟩:=hfo;simp at he;obtain⟨rfl,rfl⟩:=he;simp[hx,hs]) ps xs.toList (z.map .val) cs v.cells (by simpa using hl) c (by rw[b];exact e) (λy hy=>by rw[b]at hy;exact Z0u.1 d y hy) h
 refine⟨.agg vs',?_,by simp only[Rep];exact⟨_,rfl,hr,h1⟩⟩
 simp only[Instr.build,Z0F,hv,Z0w,Z0p hu,hm,hf,Z0O]
def B6P(sz:Nat):∀(rows:List (List AV)) (i:Nat) (r:List AV),(∀q∈rows,q.length=sz)->r.length=sz->i<rows.length->
 (rows.set i r).flatten=rows.flatten.take (i*sz)++r++rows.flatten.drop (i*sz+sz)
 |[],i,r,_,_,h=>by simp at h
 |q::rows,0,r,hs,hr,_=>by have hq:=hs q (by simp);simp only[List.set_cons_zero,Z0V,Z2q,Z2l,Z1g,Z0I];rw[<-hq,List.drop_left]
 |q::rows,i+1,r,hs,hr,h=>by
  have hq:=hs q (by simp);have ih:=B6P sz rows i r (λx hx=>hs x (by simp[hx])) hr (by simpa using h);simp only[List.set_cons_succ,Z0V,ih];have e1:(i+1)*sz=q.length+i*sz:=by rw[Z0L,hq];omega
  rw[e1,List.take_length_add_append,Z2j q.length,List.drop_length_add_append];simp
def B5K{sz}:∀(ps:List (Nat×AV)) (xs:List (Nat×Value)) (rows a:List (List AV)) (vs:Array Value),ps.length=xs.length->
 (∀(j:Nat) (p:Nat×AV) (x:Nat×Value),ps[j]?=some p->xs[j]?=some x->p.1=x.1/\Rep G p.2 x.2)->
 (∀q∈rows,q.length=sz)->A0u G rows.flatten vs.toList->(∀y∈vs.toList,y.oneCell'=true)->A0W sz ps rows=some a->
 ∃vs':Array Value,Instr.fill (λi=>some (i*sz,sz)) vs xs=some vs'/\A0u G a.flatten vs'.toList/\(∀y∈vs'.toList,y.oneCell'=true)/\(∀q∈a,q.length=sz)/\a.length=rows.length
 |[],xs,rows,a,vs,hl,_,hs,hr,h1,h=>by have:xs=[]:=Z0z (by simpa using hl.symm);subst this;simp[A0W]at h;subst h;exact⟨vs,by simp[Instr.fill],hr,h1,hs,rfl⟩
 |(i,v)::ps,[],_,_,_,hl,_,_,_,_,_=>by simp at hl
 |(i,v)::ps,(i',x)::xs,rows,a,vs,hl,hps,hs,hr,h1,h=>by
  obtain⟨rfl,hx⟩:=hps 0 _ _ rfl rfl;simp only at hx;simp only[A0W]at h;split at h;case isFalse=>simp at h
  rename_i hc;simp only[Z0g,Z0l]at hc;obtain⟨⟨m,b⟩,hi⟩:=hc;obtain⟨g,l⟩:=hx.cells m;have n:=g.length;have d:=hr.length;have k:rows.flatten.length=rows.length*sz:=by
   clear h hr d hps hi;induction rows with
   |nil=>simp
   |cons q rows ih=>simp only[Z0V,Z0r,Z0x,hs q (by simp),ih (λx hx=>hs x (by simp[hx])),Z0L];omega
  have c:x.cells.size=sz:=by rw[<-b];simpa using n
  have o:i*sz+sz<=rows.length*sz:=by have:(i+1)*sz<=rows.length*sz:=Z0Y _ hi;rw[Z0L]at this;omega
  have r:vs.size=rows.length*sz:=by rw[k]at d;simpa using d
  have e:=C2Y (λi=>some (i*sz,sz)) vs i (i*sz) sz x xs rfl c (by omega);simp only;rw[e];have f:=B5K ps xs (rows.set i v.cells) a (vs.toList.take (i*sz)++x.cells.toList++vs.toList.drop (i*sz+x.cells.size)).toArray (by simpa using hl)
   (λj p y hp' hy=>hps (j+1) p y (by simpa using hp') (by simpa using hy))
   (λq hq=>by
    rcases Z4b hq with h|h
    .exact hs q h
    .subst h;exact b) ?_ ?_ h
  .obtain⟨vs',q1,q2,q3,q4,q5⟩:=f;exact⟨vs',q1,q2,q3,q4,by simpa using q5⟩
  .rw[B6P sz rows i v.cells hs b hi,c];exact((hr.take _).append g).append (hr.drop _)
  .intro y hy;simp only[Z0P]at hy;rcases hy with(hy|hy)|hy
   .exact h1 y (Z1n hy)
   .exact l y hy
   .exact h1 y (Z1u hy)
def B3w(z:List Value)(n sz:Nat)(hz:z.length=sz)(a:0<sz):((Array.range (n*sz)).map (λi=>z.toArray[i%z.toArray.size]!)).toList=(List.replicate n z).flatten:=by
 subst hz;apply Z1L;intro j;have hl:(List.replicate n z).flatten.length=n*z.length:=by simp
 by_cases hj:j<n*z.length
 .have h1:((Array.range (n*z.length)).map (λi=>z.toArray[i%z.toArray.size]!)).toList[j]?=some (z.toArray[j%z.length]!):=by simp[hj]
  rw[h1];have hm:j%z.length<z.length:=Nat.mod_lt _ a;have:∀(n j:Nat),j<n*z.length->(List.replicate n z).flatten[j]?=z[j%z.length]?:=by
   intro n;induction n with
   |zero=>intro j h;simp at h
   |succ n ih=>
    intro j h;rw[Z2n,Z0V];by_cases hlt:j<z.length
    .rw[Z0h hlt,Nat.mod_eq_of_lt hlt]
    .rw[Z1t (by omega),ih (j-z.length) (by rw[Z0L]at h;omega)];rw[<-Nat.mod_eq_sub_mod (by omega)]
  rw[this n j hj,Z0m hm];simp[hm]
 .rw[Z1B (by simp;omega),Z1B (by omega)]
def B2a(hi:Inv C G M w){t e:TypeId}(ht:A1h C.P t=some e){sz n}(hs:A1t C.P e=some sz){z}(hz:A0F C.P e=some z)(k:z.all (·.oneCell')=true)(d:z.length=sz)(c:0<sz)(f:n*sz<=2^24)
 {ps}{xs}(hl:ps.length=xs.size)(r:∀(j:Nat) (p:Nat×AV) (x:Nat×Value),ps[j]?=some p->xs.toList[j]?=some x->p.1=x.1/\Rep G p.2 x.2)
 {rows}(h:A0W sz ps (List.replicate n (z.map .val))=some rows):
 ∃vs':Array Value,(Instr.buildSlice t n xs).run C.P w=.ok (.slice (some ⟨w.heap.size,0,none⟩) n n) (w.alloc (.cells vs' e))/\A0u G rows.flatten vs'.toList/\(∀y∈vs'.toList,y.oneCell'=true)/\(∀q∈rows,q.length=sz)/\rows.length=n:=by
 obtain⟨v,hv,g,m⟩:=B0m (P:=C.P) hz G w
 have a:∀b:Array Value,(n*sz=0\/b=v.cells)->(Array.range (n*sz)).map (λx=>b[x%b.size]!)=(List.replicate n z).flatten.toArray:=by
  intro b h0;rcases h0 with h0|rfl
  ·(have:n=0:=by rcases Nat.mul_eq_zero.1 h0 with h|h<;>omega);subst this
   simp
  .apply Z1N;have:=B3w z n sz d c;rw[<-g]at this|-;simpa using this
 have o:A0u G (List.replicate n (z.map AV.val)).flatten (List.replicate n z).flatten:=by
  clear h a f;induction n with
  |zero=>simp[A0u]
  |succ n ih=>rw[Z2n,Z2n,Z0V,Z0V];exact m.append ih
 obtain⟨vs',q1,q2,q3,q4,q5⟩:=B5K (G:=G) ps xs.toList (List.replicate n (z.map .val)) rows (List.replicate n z).flatten.toArray (by simpa using hl) r
  (λq hq=>by have:=(Z3p.1 hq).2;subst this;simpa using d) (by simpa using o) (λy hy=>by
   (have:y∈(List.replicate n z).flatten:=by simpa using hy);obtain⟨l,s,i⟩:=Z4d.1 this
   have:=(Z3p.1 s).2;subst this;exact Z0u.1 k y i) h
 refine⟨vs',?_,q2,q3,q4,by simpa using q5⟩
 .have hb:¬(n*sz>2^24):=by omega
  by_cases h0:n*sz=0
  .simp only[Instr.buildSlice,Z0F,Z0p (A2w ht),Z0w,A2f hs,Z0c hb,Z0d h0,Z0O,a #[] (.inl h0),q1,newRow,Z3I];rfl
  .simp only[Instr.buildSlice,Z0F,Z0p (A2w ht),Z0w,A2f hs,Z0c hb,Z0c h0,hv,Z0O,a v.cells (.inr rfl),q1,newRow,Z3I];rfl
def B5T(hi:Inv C G M w){t e:TypeId}(ht:A1h C.P t=some e){sz n}(hs:A1t C.P e=some sz){z}(hz:A0F C.P e=some z)(g:z.all (·.oneCell')=true)(k:z.length=sz)(a:0<sz)(c:n*sz<=2^24)
 {ps}{xs}(hl:ps.length=xs.size)(f:∀(j:Nat) (p:Nat×AV) (x:Nat×Value),ps[j]?=some p->xs.toList[j]?=some x->p.1=x.1/\Rep G p.2 x.2)
 {rows}(h:A0W sz ps (List.replicate n (z.map .val))=some rows):
 ∃u w' G',(Instr.buildSlice t n xs).run C.P w=.ok u w'/\G.le G'/\Inv C G' M w'/\Rep G' (.list sz rows .full) u/\Ext w w':=by
 obtain⟨vs',b,q2,q3,q4,hn⟩:=B2a hi ht hs hz g k a c hl f h
 have d:=A0r.le_fix hi vs'.toList
 refine⟨_,_,G.fix w.heap.size vs'.toList,b,d,hi.fix vs' e vs'.toList (λi v hv=>by simpa using hv),?_,Ext.alloc _ _⟩
 refine A5P hn.symm (by omega) ?_ ⟨λ_=>rfl,?_⟩ (by simp only[A5G];exact hn.symm)
 .have:n<=n*sz:=Z2m _ a;simp only[maxLen];omega
 .refine A0D.mk q4 (A0S.mk (A0u.mono d _ _ q2) q3 (λj v hv=>?_));simp only[A0r.fix,Z0M,Z0I];exact hv
def Inv.newVec(hi:Inv C G M w){n cap sz}{cs}{vs}(t:TypeId)(hr:A0u G cs (vs.toList.take (n*sz)))(h1:∀v∈vs.toList.take (n*sz),v.oneCell'=true)(k:vs.size=cap*sz)(hn:n<=cap)(d:cap<=maxLen):∃G',Inv C G' (M++[.vec t sz cs 0 [(0,n)]]) (w.alloc (.cells vs t))/\G.le G'/\Rep G' (.vref M.length 0 sz 0 n) (.slice (some ⟨w.heap.size,0,none⟩) n cap):=by
 have o:n*sz<=cap*sz:=Z0Y _ hn
 have f:cs.length=n*sz:=by rw[<-hr.length];simp;omega
 obtain⟨G',i,e,l,g,j,p⟩:=hi.newObj (.cells vs t) (.vec t sz cs 0 [(0,n)]) (λ_=>(some ⟨w.heap.size,0,none⟩,cap)) 0
  (λG' e _ hh ht hst hk=>⟨ht,λh m hm=>by
   simp only[Z1m,Z0f]at hm;obtain⟨rfl,rfl⟩:=hm;refine⟨by omega,Z2J f.symm,w.heap.size,0,cap,vs,by rw[hh],hn,d,Z2k w _,Z2J (by rw[k,Z0I]),?_,?_,hst,hk⟩
   .rw[Z1k,Z0k (Z2J f)];exact A0u.mono e _ _ hr
   .rw[Z1k];exact h1,λh n h' n' a a' c c' m1 m2 e1 e2 _=>by
   rw[hh]at e1 e2;simp only[Z0f,Z0b]at e1 e2;rw[<-e1.1,<-e2.1]⟩)
  (λG' b _ hh hown=>by obtain⟨h,m,a,_,ha,rfl⟩:=hown;rw[hh]at ha;simp only[Z0b]at ha;rw[<-ha])
 refine⟨G',i,e,?_⟩
 simp only[Rep]
 exact⟨g,by omega,⟨w.heap.size,0,none⟩,⟨w.heap.size,0,none⟩,cap,by rw[j],rfl,rfl,by simp,by omega,d,λ_=>by simp⟩
def A1J(P:Program)(t:TypeId)(n:Nat)(parts:List (Nat×AV))(M:Mem):Option (AV×Mem):=match A1h P t with
 |some e=>match A1t P e,A0F P e with
  |some sz,some z=>if n*sz<=2^24/\z.length=sz/\z.all (·.oneCell')/\0<sz then
   (A0W sz parts (List.replicate n (z.map .val))).map λrows=>(.vref M.length 0 sz 0 n,M++[.vec e sz rows.flatten 0 [(0,n)]])
   else none
  |_,_=>none
 |none=>none
def C4g(hi:Inv C G M w){t:TypeId}{n}{ps}{xs}(hl:ps.length=xs.size)(k:∀(j:Nat) (p:Nat×AV) (x:Nat×Value),ps[j]?=some p->xs.toList[j]?=some x->p.1=x.1/\Rep G p.2 x.2)
 {v}{M'}(h:A1J C.P t n ps M=some (v,M')):
 ∃u w' G',(Instr.buildSlice t n xs).run C.P w=.ok u w'/\G.le G'/\Inv C G' M' w'/\Rep G' v u/\Ext w w':=by
 unfold A1J at h
 split at h
 case h_2=>simp at h
 rename_i e he
 split at h
 case h_2=>simp at h
 rename_i sz z hs hz
 split at h
 case isFalse=>simp at h
 rename_i hc
 obtain⟨c1,c2,c3,c4⟩:=hc
 simp only[Z0j,Z0f]at h
 obtain⟨rows,a,rfl,rfl⟩:=h
 obtain⟨vs',c,q2,q3,q4,hn⟩:=B2a hi he hs hz c3 c2 c4 c1 hl k a
 have b:rows.flatten.length=n*sz:=by
  rw[<-hn];clear a q2 hn;induction rows with
  |nil=>simp
  |cons r rs ih=>rw[Z0V,Z0r,ih (λq hq=>q4 q (by simp[hq])),q4 r (by simp),Z0x,Z0L];omega
 have i:n<=maxLen:=by have:n<=n*sz:=Z2m _ c4;simp only[maxLen];omega
 have g:vs'.size=n*sz:=by rw[<-b,<-q2.length];simp
 have d:vs'.toList.take (n*sz)=vs'.toList:=Z0k (by simp[g])
 obtain⟨G',l,m,f⟩:=hi.newVec (n:=n) (cap:=n) e (by rw[d];exact q2) (by rw[d];exact q3) g (Z0n _) i
 exact⟨_,_,G',c,m,l,f,Ext.alloc _ _⟩
end
section
variable {C:Ctx} {G:A0r} {M:Mem} {w:World}
def B5b{f g sz lo0 len}{xv}(hx:Rep G (.vref f g sz lo0 len) xv){t:TypeId}{lo hi mx}{xlo xhi xmx}{v}
 (r:∀a,lo=some a->∃x,xlo=some x/\Rep G a x)(c:lo=none->xlo=none)
 (n:∀a,hi=some a->∃x,xhi=some x/\Rep G a x)(j:hi=none->xhi=none)
 (s:∀a,mx=some a->∃x,xmx=some x/\Rep G a x)(i:mx=none->xmx=none)(h:A5t C.P t f g sz lo0 len lo hi mx=some v):
 ∃u,(Instr.sliceAt t xv xlo xhi xmx).run C.P w=.ok u w/\Rep G v u:=by
 unfold A5t at h
 split at h
 case h_2=>simp at h
 rename_i m e hm he
 split at h
 case isFalse=>simp at h
 rename_i hsz
 split at h
 case h_2=>simp at h
 rename_i hh hhe hb
 split at h
 case h_2=>simp at h
 rename_i l hl
 simp only[Rep]at hx
 obtain⟨hf,hg,a,a',cap,hd,p,b,rfl,z,o,k⟩:=hx
 obtain⟨m',d,q1,q2,q3,q4,q5,q6⟩:=B3I (C:=C) (w:=w) (G:=G) (len:=len) (cap:=cap-lo0) (by omega) r c n j s i hm hhe hb hl
 refine⟨.slice (if m'=l then some a' else(some a').map (·.add (l*sz))) (hh-l) (m'-l),?_,?_⟩
 .simp[Instr.sliceAt,Instr.slice,Z0p (A2w he),d,A2f hsz]
 .split at h
  .have e6:=q6 rfl;subst e6;simp only[Z0b]at h;subst h;simp only[Rep];refine⟨hf,hg,a,if cap-lo0=l then a' else a'.add (l*sz),cap,hd,p,?_,?_,by omega,o,λy=>?_⟩
   .split
    .exact b
    .rw[k (by omega),Z1C]
   .split<;>simp<;>omega
   .rw[Z0c (by omega),k (by omega),Z1C];simp only[Z3A,Z2y,Z1M];rw[Z0L];omega
  .rename_i q;split at h
   .rename_i hql;simp only[Z0b]at h;subst h;have e5:=q5 q rfl;(have h1:hh-l=0:=by omega);(have h2:m'-l=0:=by omega);rw[Z0d (by omega),h1,h2];simp only[Rep];exact⟨some a',0,rfl,Z0n _,by simp[maxLen],⟨λ_=>b,by simp[A0D]⟩,rfl⟩
   .simp at h
def A4V(P:Program)(t:TypeId)(l c:AV)(M:Mem):Option (AV×Mem):=
 match A1h P t,l,c with
 |some e,.val (.int _ l),.val (.int _ c)=>match A1t P e,A0F P e,C4q P e with
  |some sz,some z,some b=>if z.length=sz/\z.all (·.oneCell')/\0<sz/\0<=l/\l<=c/\c.toNat*sz<=16777216/\(b:Int)*c<=281474976710656 then
   some (.vref M.length 0 sz 0 l.toNat,M++[.vec e sz (List.replicate l.toNat (z.map .val)).flatten 0 [(0,l.toNat)]])
   else none
  |_,_,_=>none
 |_,_,_=>none
def C7a(hi:Inv C G M w){t:TypeId}{l c}{lv cv}(hl:Rep G l lv)(hc:Rep G c cv){v}{M'}(h:A4V C.P t l c M=some (v,M')):∃u w' G',(Instr.makeSlice t lv cv).run C.P w=.ok u w'/\G.le G'/\Inv C G' M' w'/\Rep G' v u/\Ext w w':=by
 unfold A4V at h
 split at h
 case h_2=>simp at h
 rename_i e kl l kc c he
 simp only[Rep]at hl hc
 subst hl;subst hc
 split at h
 case h_2=>simp at h
 rename_i sz z b hs hz hb
 split at h
 case isFalse=>simp at h
 rename_i hcond
 obtain⟨c1,c2,c3,c4,c5,c6,c7⟩:=hcond
 simp only[Z0b,Z0f]at h
 obtain⟨rfl,rfl⟩:=h
 obtain⟨i,d,g⟩:=D2t hs
 have a0:i.bytes=b:=by simpa[C4q,d]using hb
 simp only[A0F,d,Z0j]at hz
 obtain⟨zv,a1,rfl⟩:=hz
 have a3:c.toNat<=16777216:=Z0X (Z2m _ c3) c6
 have j:=run_makeSlice (P:=C.P) w t e i zv (A2w he) d a1 kl kc l c c4 c5 (by rw[g];exact c6) (by rw[a0];exact c7) (by omega)
 rw[g]at j
 have m:(madeCells zv.cells (c.toNat*sz)).toList=(List.replicate c.toNat zv.cells.toList).flatten:=by have:=B3w zv.cells.toList c.toNat sz c1 c3;simpa[madeCells]using this
 have k:(madeCells zv.cells (c.toNat*sz)).size=c.toNat*sz:=by simp[madeCells]
 have f:(madeCells zv.cells (c.toNat*sz)).toList.take (l.toNat*sz)=(List.replicate l.toNat zv.cells.toList).flatten:=by
  rw[m];have e1:c.toNat=l.toNat+(c.toNat-l.toNat):=by omega
  have e2:(List.replicate l.toNat zv.cells.toList).flatten.length=l.toNat*sz:=by rw[List.length_flatten];simp[c1]
  rw[e1,<-List.replicate_append_replicate,List.flatten_append,<-e2,Z4v]
 have o:∀n,A0u G (List.replicate n (zv.cells.toList.map AV.val)).flatten (List.replicate n zv.cells.toList).flatten:=by
  intro n;induction n with
  |zero=>simp[A0u]
  |succ n ih=>rw[Z2n,Z2n,Z0V,Z0V];refine A0u.append ?_ ih;refine A0u.of_get (by simp) ?_;intro i c y h1 h2;simp only[Z1l,Z0j]at h1;obtain⟨a,ha,rfl⟩:=h1;rw[ha]at h2;simp only[Z0b]at h2;subst h2;simp[Rep]
 obtain⟨G',x,a2,r⟩:=hi.newVec (n:=l.toNat) (cap:=c.toNat) (sz:=sz) e (by rw[f];exact o l.toNat) (by rw[f];intro v hv;obtain⟨q,s,p⟩:=Z4d.1 hv;rw[(Z3p.1 s).2]at p;exact Z0u.1 c2 v p) k (by omega) (by simp only[maxLen];omega)
 exact⟨_,_,G',j,a2,x,r,Ext.alloc _ _⟩
end
section
variable {α:Type}
def upd(D:Nat->α)(i:Nat)(x:α):Nat->α:=λk=>if k=i then x else D k
def swp(D:Nat->α)(i j:Nat):Nat->α:=upd (upd D i (D j)) j (D i)
def ofD(D:Nat->α)(n:Nat):List α:=(List.range n).map D
@[simp] def C8J(D:Nat->α)(n:Nat):(ofD D n).length=n:=by simp[ofD]
def B0L(D:Nat->α)(n i:Nat)(h:i<(ofD D n).length):(ofD D n)[i]=D i:=by simp[ofD]
def C4M(D:Nat->α)(n i:Nat)(x:α):(ofD D n).set i x=ofD (upd D i x) n:=by
 apply List.ext_getElem
 .simp
 .intro k h1 h2;rw[List.getElem_set,B0L,B0L];simp only[upd];by_cases e:i=k
  .simp[e]
  .rw[Z0c e,Z0c (λh=>e h.symm)]
def D5z(D:Nat->α){n i j:Nat}(hi:i<n)(hj:j<n):(ofD (swp D i j) n).Perm (ofD D n):=by have h:=@List.set_set_perm α (ofD D n) i j (by simpa using hi) (by simpa using hj);rw[B0L,B0L,C4M,C4M]at h;exact h
def A7d(D:Nat->α)(i j k:Nat):swp D i j k=if k=j then D i else if k=i then D j else D k:=rfl
structure Mix (n a b:Nat) (D E:Nat->α):Prop where
 perm:(ofD E n).Perm (ofD D n)
 out:∀k,k<a\/b<=k->E k=D k
 mem:∀k,a<=k->k<b->∃j,a<=j/\j<b/\E k=D j
def Mix.refl(n a b:Nat)(D:Nat->α):Mix n a b D D:=⟨.refl _,λ_ _=>rfl,λk h1 h2=>⟨k,h1,h2,rfl⟩⟩
def Mix.trans{n a b:Nat}{D E F:Nat->α}(h:Mix n a b D E)(k:Mix n a b E F):Mix n a b D F:=⟨k.perm.trans h.perm,λi hi=>(k.out i hi).trans (h.out i hi),λi h1 h2=>by obtain⟨j,q1,q2,q3⟩:=k.mem i h1 h2;obtain⟨j',r1,r2,r3⟩:=h.mem j q1 q2;exact⟨j',r1,r2,q3.trans r3⟩⟩
def Mix.wide{n a b a' b':Nat}{D E:Nat->α}(h:Mix n a b D E)(ha:a'<=a)(hb:b<=b'):Mix n a' b' D E:=
 ⟨h.perm,λk hk=>h.out k (by omega),λk h1 h2=>by
  by_cases c:a<=k/\k<b
  .obtain⟨j,q1,q2,q3⟩:=h.mem k c.1 c.2;exact⟨j,by omega,by omega,q3⟩
  .exact⟨k,h1,h2,h.out k (by omega)⟩⟩
def Mix.swap{n a b:Nat}(D:Nat->α){i j:Nat}(hb:b<=n)(h1:a<=i)(h2:i<b)(h3:a<=j)(h4:j<b):Mix n a b D (swp D i j):=
 ⟨D5z D (by omega) (by omega),λk hk=>by rw[A7d,Z0c (by omega),Z0c (by omega)],λk k1 k2=>by
  rw[A7d];split
  .exact⟨i,h1,h2,rfl⟩
  .split
   .exact⟨j,h3,h4,rfl⟩
   .exact⟨k,k1,k2,rfl⟩⟩
structure A6b (c:α->α->Int):Prop where
 asymm:∀x y,c x y<0->¬c y x<0
 trans:∀x y z,¬c y x<0->¬c z y<0->¬c z x<0
def Srt(c:α->α->Int)(a b:Nat)(D:Nat->α):Prop:=∀i j,a<=i->i<j->j<b->¬c (D j) (D i)<0
def Srt.part{c:α->α->Int}{a b a' b':Nat}{D:Nat->α}(h:Srt c a b D)(ha:a<=a')(hb:b'<=b):Srt c a' b' D:=λi j h1 h2 h3=>h i j (by omega) h2 (by omega)
def Srt.congr{c:α->α->Int}{a b:Nat}{D E:Nat->α}(h:Srt c a b D)(he:∀k,a<=k->k<b->E k=D k):Srt c a b E:=λi j h1 h2 h3=>by rw[he i h1 (by omega),he j (by omega) h3];exact h i j h1 h2 h3
def A6b.lt_of{c:α->α->Int}(o:A6b c){x y z:α}(h1:¬c y x<0)(h2:c y z<0):c x z<0:=Z1p λh=>o.trans z x y h h1 h2
def A6b.lt_of'{c:α->α->Int}(o:A6b c){x y z:α}(h1:c x y<0)(h2:¬c z y<0):c x z<0:=Z1p λh=>o.trans y z x h2 h h1
def B2r(c:α->α->Int)(a i j:Nat)(D:Nat->α):Prop:=∀p q,a<=p->p<q->q<=i->q≠j->¬c (D q) (D p)<0
def B2r.start{c:α->α->Int}{a i:Nat}{D:Nat->α}(h:Srt c a i D):B2r c a i i D:=λp q h1 h2 h3 h4=>h p q h1 h2 (by omega)
def B2r.stop{c:α->α->Int}(o:A6b c){a i j:Nat}{D:Nat->α}(h:B2r c a i j D)(hj:j<=i)(he:j<=a\/¬c (D j) (D (j-1))<0):Srt c a (i+1) D:=by
 intro p q h1 h2 h3;by_cases hq:q=j
 .subst hq;rcases he with he|he
  .omega
  .by_cases hp:p=q-1
   .subst hp;exact he
   .exact o.trans (D p) (D (q-1)) (D q) (h p (q-1) h1 (by omega) (by omega) (by omega)) he
 .exact h p q h1 h2 (by omega) hq
def B2r.step{c:α->α->Int}(o:A6b c){a i j:Nat}{D:Nat->α}(h:B2r c a i j D)(ha:a<j)(hj:j<=i)(b:c (D j) (D (j-1))<0):B2r c a i (j-1) (swp D j (j-1)):=by
 intro p q h1 h2 h3 h4;rw[A7d,A7d,Z0c h4];by_cases hq:q=j
 .subst hq;rw[Z0d rfl];by_cases hp:p=q-1
  .rw[Z0d hp];exact o.asymm _ _ b
  .rw[Z0c hp,Z0c (by omega)];exact h p (q-1) h1 (by omega) (by omega) (by omega)
 .rw[Z0c hq];by_cases hp:p=j-1
  .rw[Z0d hp];exact h j q (by omega) (by omega) h3 hq
  .rw[Z0c hp];by_cases hp2:p=j
   .rw[Z0d hp2];exact h (j-1) q (by omega) (by omega) h3 hq
   .rw[Z0c hp2];exact h p q h1 h2 h3 hq
def B6h(D:Nat->α)(a k:Nat):Nat->α:=λx=>if a<=x/\x<k then D (x+1)else if x=k then D a else D x
def C1T(D:Nat->α)(a:Nat):B6h D a a=D:=by
 funext x;simp only[B6h];rw[Z0c (by omega)];split
 .rename_i h;rw[h]
 .rfl
def C2u(D:Nat->α){a k:Nat}(h:a<=k):swp (B6h D a k) k (k+1)=B6h D a (k+1):=by
 funext x;rw[A7d];simp only[B6h];repeat' split
 all_goals first|rfl|contradiction|(exfalso;omega)|(congr 1;omega)
def D3H{c:α->α->Int}(o:A6b c){D:Nat->α}{a b i:Nat}(hs:Srt c (a+1) b D)(h1:a<i)(h2:i<=b)(hl:a+1<i->c (D (i-1)) (D a)<0)(hr:i<b->¬c (D i) (D a)<0):Srt c a b (B6h D a (i-1)):=by
 have lo:∀q,a+1<=q->q<i->c (D q) (D a)<0:=by
  intro q q1 q2;by_cases e:q=i-1
  .rw[e];exact hl (by omega)
  .exact o.lt_of (hs q (i-1) q1 (by omega) (by omega)) (hl (by omega))
 have hi:∀q,i<=q->q<b->¬c (D q) (D a)<0:=by
  intro q q1 q2;by_cases e:q=i
  .rw[e];exact hr (by omega)
  .exact o.trans _ _ _ (hr (by omega)) (hs i q (by omega) (by omega) q2)
 intro p q p1 p2 p3;simp only[B6h];by_cases hp:p<i-1
 .rw[Z0d (show a<=p/\p<i-1 from⟨p1,hp⟩)];by_cases hq:q<i-1
  .rw[Z0d (show a<=q/\q<i-1 from⟨by omega,hq⟩)];exact hs _ _ (by omega) (by omega) (by omega)
  .rw[Z0c (by omega)];by_cases hq2:q=i-1
   .rw[Z0d hq2];exact o.asymm _ _ (lo _ (by omega) (by omega))
   .rw[Z0c hq2];exact hs _ _ (by omega) (by omega) (by omega)
 .rw[Z0c (by omega),Z0c (by omega),Z0c (show¬(a<=p/\p<i-1)by omega)];by_cases hp2:p=i-1
  .rw[Z0d hp2];exact hi q (by omega) p3
  .rw[Z0c hp2];exact hs _ _ (by omega) p2 p3
def A7k(D:Nat->α)(k m:Nat):Nat->α:=λx=>if k<x/\x<=m then D (x-1)else if x=k then D m else D x
def B6u(D:Nat->α)(m:Nat):A7k D m m=D:=by
 funext x;simp only[A7k];rw[Z0c (by omega)];split
 .rename_i h;rw[h]
 .rfl
def B7o(D:Nat->α){k m:Nat}(h:k<=m)(h0:0<k):swp (A7k D k m) k (k-1)=A7k D (k-1) m:=by
 funext x;rw[A7d];simp only[A7k];repeat' split
 all_goals first|rfl|(exfalso;rename_i h _;exact h trivial)|(exfalso;rename_i h _ _;exact h trivial)|contradiction|(exfalso;omega)|(congr 1;omega)
def C8N{c:α->α->Int}(o:A6b c){D:Nat->α}{a m i:Nat}(hs:Srt c a m D)(h1:a<=i)(h2:i<=m)(hl:a<i->¬c (D m) (D (i-1))<0)(hr:i<m->c (D m) (D i)<0):Srt c a (m+1) (A7k D i m):=by
 have lo:∀q,a<=q->q<i->¬c (D m) (D q)<0:=by
  intro q q1 q2;by_cases e:q=i-1
  .rw[e];exact hl (by omega)
  .exact o.trans _ _ _ (hs q (i-1) q1 (by omega) (by omega)) (hl (by omega))
 have hi:∀q,i<=q->q<m->c (D m) (D q)<0:=by
  intro q q1 q2;by_cases e:q=i
  .rw[e];exact hr (by omega)
  .exact o.lt_of' (hr (by omega)) (hs i q (by omega) (by omega) q2)
 intro p q p1 p2 p3;simp only[A7k];by_cases hp:p<i
 .rw[Z0c (show¬(i<p/\p<=m)by omega),Z0c (show¬p=i by omega)];by_cases hq:q<i
  .rw[Z0c (show¬(i<q/\q<=m)by omega),Z0c (show¬q=i by omega)];exact hs _ _ p1 p2 (by omega)
  .by_cases hq2:q=i
   .rw[Z0c (show¬(i<q/\q<=m)by omega),Z0d hq2];exact lo p p1 hp
   .rw[Z0d (show i<q/\q<=m by omega)];by_cases hq3:q-1=p
    .omega
    .exact hs _ _ p1 (by omega) (by omega)
 .rw[Z0d (show i<q/\q<=m by omega)];by_cases hp2:p=i
  .rw[Z0c (show¬(i<p/\p<=m)by omega),Z0d hp2];exact o.asymm _ _ (hi _ (by omega) (by omega))
  .rw[Z0d (show i<p/\p<=m by omega)];exact hs _ _ (by omega) (by omega) (by omega)
def rot(D:Nat->α)(s m e:Nat):Nat->α:=λk=>if k<s\/e<=k then D k else if k<s+(e-m)then D (k+(m-s))else D (k-(e-m))
def xch(D:Nat->α)(i j l:Nat):Nat->α:=λk=>if i<=k/\k<i+l then D (k-i+j)else if j<=k/\k<j+l then D (k-j+i)else D k
def C6Z(D:Nat->α)(i j:Nat):xch D i j 0=D:=by funext x;simp only[xch];rw[Z0c (by omega),Z0c (by omega)]
def C6h(D:Nat->α){i j l:Nat}(h:i+l<j):swp (xch D i j l) (i+l) (j+l)=xch D i j (l+1):=by
 funext x;rw[A7d];simp only[xch];repeat' split
 all_goals first|rfl|(exfalso;rename_i h _;exact h trivial)|(exfalso;rename_i h _ _;exact h trivial)|contradiction|(exfalso;omega)|(congr 1;omega)
def D5r(D:Nat->α){i j m:Nat}(a:i<=m)(h:j<i)(hj:0<j):rot (xch D (m-i) m j) (m-(i-j)) m (m+j)=rot D (m-i) m (m+j):=by
 funext k;simp only[rot,xch];repeat' split
 all_goals first|rfl|(exfalso;omega)|(congr 1;omega)
def D3O(D:Nat->α){i j m:Nat}(a:i<=m)(h:i<j)(hi:0<i):rot (xch D (m-i) (m+j-i) i) (m-i) m (m+(j-i))=rot D (m-i) m (m+j):=by
 funext k;simp only[rot,xch];repeat' split
 all_goals first|rfl|(exfalso;omega)|(congr 1;omega)
def D3G(D:Nat->α){i m:Nat}(a:i<=m):xch D (m-i) m i=rot D (m-i) m (m+i):=by
 funext k;simp only[rot,xch];repeat' split
 all_goals first|rfl|(exfalso;omega)|(congr 1;omega)
def C6W(D:Nat->α){s m e:Nat}(h1:s<=m)(h2:m<=e)(h:¬(s<m/\m<e)):rot D s m e=D:=by
 funext k;simp only[rot];by_cases c1:k<s\/e<=k
 .rw[Z0d c1]
 .rw[Z0c c1];by_cases c2:k<s+(e-m)
  .rw[Z0d c2];congr 1;omega
  .rw[Z0c c2];congr 1;omega
def C7p{c:α->α->Int}(o:A6b c){D:Nat->α}{a m b mid s e:Nat}(d:Srt c a m D)(f:Srt c m b D)(h1:a<=s)(h2:s<=m)(h3:m<=e)(h4:e<=b)(h5:e+s=mid+m) (hl:(a<s/\e<b)->¬c (D e) (D (s-1))<0)(hr:(s<m/\m<e)->c (D (e-1)) (D s)<0):∀i j,a<=i->i<mid->mid<=j->j<b->¬c (rot D s m e j) (rot D s m e i)<0:=by
 intro i j i1 i2 j1 j2
 simp only[rot]
 by_cases ci:i<s
 .rw[Z0d (show i<s\/e<=i from .inl ci)];by_cases cj:e<=j
  .rw[Z0d (show j<s\/e<=j from .inr cj)];have k1:¬c (D e) (D (s-1))<0:=hl ⟨by omega,by omega⟩;have k2:¬c (D e) (D i)<0:=by
    by_cases q:i=s-1
    .rw[q];exact k1
    .exact o.trans _ _ _ (d i (s-1) i1 (by omega) (by omega)) k1
   by_cases q:j=e
   .rw[q];exact k2
   .exact o.trans _ _ _ k2 (f e j (by omega) (by omega) j2)
  .rw[Z0c (show¬(j<s\/e<=j)by omega),Z0c (show¬j<s+(e-m)by omega)];exact d _ _ i1 (by omega) (by omega)
 .rw[Z0c (show¬(i<s\/e<=i)by omega),Z0d (show i<s+(e-m)by omega)];by_cases cj:e<=j
  .rw[Z0d (show j<s\/e<=j from .inr cj)];exact f _ _ (by omega) (by omega) j2
  .rw[Z0c (show¬(j<s\/e<=j)by omega),Z0c (show¬j<s+(e-m)by omega)];have k1:c (D (e-1)) (D s)<0:=hr ⟨by omega,by omega⟩;have k2:c (D (i+(m-s))) (D s)<0:=by
    by_cases q:i+(m-s)=e-1
    .rw[q];exact k1
    .exact o.lt_of (f _ (e-1) (by omega) (by omega) (by omega)) k1
   refine o.asymm _ _ ?_;by_cases q:j-(e-m)=s
   .rw[q];exact k2
   .exact o.lt_of' k2 (d s _ (by omega) (by omega) (by omega))
def D2S{c:α->α->Int}{D:Nat->α}{a m b mid s e:Nat}(d:Srt c a m D)(f:Srt c m b D)(h1:a<=s)(h2:s<=m)(h3:m<=e)(h4:e<=b)(h5:e+s=mid+m):Srt c a s (rot D s m e)/\Srt c s mid (rot D s m e)/\Srt c mid e (rot D s m e)/\Srt c e b (rot D s m e):=by
 have lo:∀k,k<s->rot D s m e k=D k:=λk h=>Z0d (.inl h)
 have v:∀k,s<=k->k<mid->rot D s m e k=D (k+(m-s)):=λk k1 k2=>by simp only[rot];rw[Z0c (by omega),Z0d (by omega)]
 have u:∀k,mid<=k->k<e->rot D s m e k=D (k-(e-m)):=λk k1 k2=>by simp only[rot];rw[Z0c (by omega),Z0c (by omega)]
 have up:∀k,e<=k->rot D s m e k=D k:=λk h=>Z0d (.inr h)
 refine⟨?_,?_,?_,?_⟩<;>intro i j i1 i2 i3
 .rw[lo i (by omega),lo j (by omega)];exact d _ _ (by omega) (by omega) (by omega)
 .rw[v i (by omega) (by omega),v j (by omega) (by omega)];exact f _ _ (by omega) (by omega) (by omega)
 .rw[u i (by omega) (by omega),u j (by omega) (by omega)];exact d _ _ (by omega) (by omega) (by omega)
 .rw[up i (by omega),up j (by omega)];exact f _ _ (by omega) (by omega) (by omega)
def D0f{c:α->α->Int}{D E F:Nat->α}{n a b mid:Nat}(e:a<=mid)(d:mid<=b)(hx:∀i j,a<=i->i<mid->mid<=j->j<b->¬c (D j) (D i)<0) (h1:Mix n a mid D E)(h2:Mix n mid b E F)(s1:Srt c a mid E)(s2:Srt c mid b F):Srt c a b F:=by
 intro i j i1 i2 i3
 by_cases ci:i<mid
 .rw[h2.out i (.inl ci)];by_cases cj:j<mid
  .rw[h2.out j (.inl cj)];exact s1 i j i1 i2 cj
  .obtain⟨j',q1,q2,q3⟩:=h2.mem j (by omega) i3;obtain⟨i',r1,r2,r3⟩:=h1.mem i i1 ci;rw[q3,h1.out j' (.inr q1),r3];exact hx i' j' r1 r2 q1 q2
 .exact s2 i j (by omega) i2 i3
def B7X(D:Nat->α){n lo hi i j:Nat}(h1:lo<=i)(hn:hi<=n):∀l,i+l<=j->j+l<=hi->Mix n lo hi D (xch D i j l)
 |0,_,_=>by rw[C6Z];exact .refl ..
 |l+1,h2,h3=>by rw[<-C6h D (show i+l<j by omega)];exact(B7X D h1 hn l (by omega) (by omega)).trans (.swap _ hn (by omega) (by omega) (by omega) (by omega))
def C7n(D:Nat->α){n lo hi a:Nat}(h1:lo<=a)(hn:hi<=n):∀d,a+d<hi->Mix n lo hi D (B6h D a (a+d))
 |0,_=>by rw[Z0U,C1T];exact .refl ..
 |d+1,h2=>by rw[<-Z2j,<-C2u D (show a<=a+d by omega)];exact(C7n D h1 hn d (by omega)).trans (.swap _ hn (by omega) (by omega) (by omega) (by omega))
def C0i(D:Nat->α){n lo hi m:Nat}(h1:m<hi)(hn:hi<=n):∀d,d<=m->lo<=m-d->Mix n lo hi D (A7k D (m-d) m)
 |0,_,_=>by rw[Nat.sub_zero,B6u];exact .refl ..
 |d+1,h2,h3=>by have e:=B7o D (show m-d<=m by omega) (by omega);rw[show m-(d+1)=m-d-1 by omega,<-e];exact(C0i D h1 hn d (by omega) (by omega)).trans (.swap _ hn (by omega) (by omega) (by omega) (by omega))
def Srt.short{c:α->α->Int}{a b:Nat}{D:Nat->α}(h:b<=a+1):Srt c a b D:=λi j h1 h2 h3=>by omega
end
end Go.Abs
