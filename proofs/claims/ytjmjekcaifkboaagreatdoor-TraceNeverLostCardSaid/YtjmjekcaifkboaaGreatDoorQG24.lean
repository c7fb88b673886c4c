/- The texts CyBase, CyS, CyA, CyC, CyD, CvSb, CvA. -/
import Derived.Test.YtjmjekcaifkboaaGreatDoorQG22
import Derived.Test.YtjmjekcaifkboaaGreatDoorQG19
import Derived.Test.YtjmjekcaifkboaaGreatDoorQG23
import Derived.Test.YtjmjekcaifkboaaGreatDoorQG10
import Derived.Test.YtjmjekcaifkboaaGreatDoorQG14
set_option linter.all false
set_option maxRecDepth 100000
namespace Go.Abs
open Go.Proofs Tryz
noncomputable def WC(gl:Nat->AV):Ctx:=⟨prog,gl,λ_=>none,λ_=>false⟩
@[simp] def E5U(gl:Nat->AV):(WC gl).P=prog:=(rfl)
@[simp] def E3i(gl:Nat->AV):(WC gl).data=λ_=>false:=(rfl)
@[simp] def E7A(gl:Nat->AV):(WC gl).gl=gl:=(rfl)
def hB:A2r:=⟨λ_=>true,λ_=>true,λ_=>false⟩
def hV:A2r:=⟨λ_=>false,λ_=>false,λ_=>true⟩
def hW:A2r:=⟨λ_=>true,λ_=>false,λ_=>true⟩
@[simp] def E5B:hW.imm=λ_=>true:=(rfl)
@[simp] def E6p:hW.own=λ_=>false:=(rfl)
@[simp] def E5q:hW.vec=λ_=>true:=(rfl)
@[simp] def E5K:hB.imm=λ_=>true:=(rfl)
@[simp] def E6C:hB.own=λ_=>true:=(rfl)
@[simp] def E6M:hB.vec=λ_=>false:=(rfl)
@[simp] def E5r:hV.own=λ_=>false:=(rfl)
@[simp] def E5Z:hV.vec=λ_=>true:=(rfl)
def A0B(gl:Nat->AV):(WC gl).P.follows .mixedOrders=true:=Q2
attribute [simp] underlying0 underlying1 underlying2 underlying3 underlying4 underlying5 underlying6 underlying7 underlying8 underlying9 underlying10 underlying11 underlying12 underlying13 underlying14 underlying15 underlying16 underlying17 underlying18 underlying19 underlying20 underlying21 underlying27 underlying28 underlying22 underlying23 underlying24 underlying29 underlying25 underlying30 underlying31 underlying32 underlying26 underlying33 underlying34 underlying35 underlying36 underlying37 underlying38 underlying40 underlying41 underlying42 underlying57 underlying58 underlying59 underlying60 underlying61 underlying62 underlying63 underlying64 underlying65 underlying46 underlying66 underlying67 underlying68 underlying44 underlying45 underlying69 underlying70 underlying71 underlying72 underlying73 underlying74 underlying90 underlying49 underlying50 underlying91 underlying48 underlying51 underlying52 underlying53 underlying92 underlying93 underlying94 underlying95 underlying47 underlying96 underlying97 underlying98 underlying54 underlying55 underlying99 underlying100 underlying101 underlying102 underlying113 underlying114 underlying115 underlying77 underlying78 underlying116 underlying79 underlying80 underlying81 underlying82 underlying76 underlying117 underlying118 underlying84 underlying85 underlying119 underlying120 underlying121 underlying122 underlying123 underlying124 underlying125 underlying126 underlying156 underlying157 underlying158 underlying106 underlying107 underlying108 underlying109 underlying110 underlying159 underlying160 underlying161 underlying162 underlying163 underlying164 underlying165 underlying151 underlying152 underlying166 underlying167 underlying168 underlying169 underlying174 underlying175 underlying176 underlying177 underlying178 underlying130 underlying131 underlying132 underlying133 underlying134 underlying135 underlying136 underlying137 underlying138 underlying139 underlying140 underlying141 underlying142 underlying143 underlying144 underlying145 underlying146 underlying147 underlying148 underlying149 underlying150 underlying153 underlying154 underlying155 underlying179 underlying180 underlying181 underlying182 underlying183 underlying184 underlying185 underlying186 underlying187 underlying188 underlying189 underlying190 underlying191 underlying192 underlying193 underlying194 underlying195 underlying196 underlying197 underlying198 underlying199 underlying200 underlying201 underlying202 underlying203 underlying204 underlying214 underlying215 underlying216 underlying217 underlying218 underlying219 underlying220 underlying221 underlying222 underlying223 underlying224 underlying225 underlying226 underlying170 underlying171 underlying172 underlying173 underlying227 underlying228 underlying229 underlying230 underlying231 underlying232 underlying233 underlying234 underlying235 underlying236 underlying237 underlying238 underlying239 underlying240 underlying241 underlying242 underlying243 underlying244 underlying245 underlying246 underlying247 underlying248 underlying249 underlying250 underlying251 underlying252 underlying253 underlying254 underlying255 underlying256 underlying257 underlying258 underlying259 underlying260 underlying261 underlying262 underlying263 underlying264 underlying265 underlying266 underlying271 underlying272 underlying273 underlying274 underlying275 underlying205 underlying206 underlying207 underlying208 underlying83 underlying209 underlying210 underlying211 underlying212 underlying213 underlying276 underlying277 underlying278 underlying279 underlying280 underlying281 underlying282 underlying283 underlying284 underlying285 underlying286 underlying287 underlying288 underlying289 underlying290 underlying291 underlying292 underlying293 underlying294 underlying295 underlying296 underlying297 underlying298 underlying299 underlying300 underlying301 underlying302 underlying303 underlying304 underlying305 underlying306 underlying307 underlying308 underlying309 underlying310 underlying313 underlying314 underlying315 underlying316 underlying317 underlying318 underlying319 underlying267 underlying268 underlying269 underlying270 underlying320 underlying321 underlying322 underlying323 underlying324 underlying325 underlying326 underlying327 underlying328 underlying329 underlying330 underlying331 underlying332 underlying333 underlying334 underlying335 underlying311 underlying312 underlying336 underlying337 underlying338 underlying339 underlying340 underlying341 underlying342 underlying343 underlying344 underlying345 underlying346 underlying347 underlying348 underlying349 underlying350 underlying351 underlying352 underlying353 underlying354 underlying355 underlying356 underlying357 underlying358 underlying359 underlying360 underlying361 underlying362 underlying363 underlying364 underlying365 underlying366 underlying367 underlying368 underlying369 underlying370 underlying371 underlying372 underlying373 underlying374 underlying375 underlying376 underlying377 underlying378 underlying379 underlying380 underlying381
attribute [simp] Env.of
def A0K(l:List ByteArray):List (List AV):=l.map λs=>[S s]
@[simp] def B5i(l:List ByteArray):(A0K l).length=l.length:=by simp[A0K]
section
variable {P:Program} {t e:TypeId} {s:ByteArray} {k k2:IntKind} {i j:Int}
@[simp] def D5C(h:P.underlying t=some .string):A1Q P t (.val (.string s)) (some (.val (.int k i))) none none=if 0<=i/\i<=s.size then some (.val (.string (s.extract i.toNat s.size)))else none:=by
 by_cases hc:0<=i/\i<=s.size
 .simp[A1Q,A3S,h,A1s,hc]
 .simp[A1Q,A3S,h,A1s,hc]
@[simp] def D5Q(h:P.underlying t=some .string):A1Q P t (.val (.string s)) none (some (.val (.int k i))) none=if 0<=i/\i<=s.size then some (.val (.string (s.extract 0 i.toNat)))else none:=by
 by_cases hc:0<=i/\i<=s.size
 .simp[A1Q,A3S,h,A1s,hc]
 .simp[A1Q,A3S,h,A1s,hc]
variable {sz:Nat} {rows:List (List AV)} {own:Own}
@[simp] def D3Z(h:A1b P t=some e)(hs:A1n P e=some sz):A1Q P t (.list sz rows own) (some (.val (.int k i))) none none=if 0<=i/\i<=rows.length then some (.list sz (rows.drop i.toNat) (A6H rows.length i.toNat rows.length none own))else none:=by
 by_cases hc:0<=i/\i<=rows.length
 .simp[A1Q,A3S,A3Y,h,hs,A1s,hc]
 .simp[A1Q,A3S,A3Y,h,hs,A1s,hc]
end
def A0l{C:Ctx}{f:FuncId}{fn:Func}{c:Code}{args:List AV}{M:Mem}{Q:AV->Mem->Prop}(hf:C.P.funcs[f]?=some fn)(hb:fn.body=some c)(hn:(fn.name== "runtime.NumGoroutine")=false)(h:A0c C f args M Q):A2Z C f args M Q:=.inl ⟨enters_of hf hb hn,h⟩
def A0R{n:Int}(h1:-9223372036854775808<=n)(h2:n<=9223372036854775807):IntKind.i64.wrap n=n:=IntWalk.i64_in _ ⟨h1,h2⟩
structure A1o where
 k:Int
 lab:ByteArray
def A1o.row(s:A1o):List AV:=[I s.k,S s.lab]
abbrev A5N(p:List A1o):AV:=.list 2 (p.map A1o.row) .no
open Go.Proofs
def D5t(e:TypeId)(M:Mem)(v:AV)(cs:List AV):Prop:=(v=.val (.slice none 0 0)/\cs=[])\/∃f g hist,v=.vref f g 1 0 cs.length/\M[f]?=some (.vec e 1 cs g hist)/\hist.lookup g=some cs.length
def D5t.src{e:TypeId}{M:Mem}{v:AV}{cs:List AV}(h:D5t e M v cs):A0D M 1 v=some (cs,cs.length):=by
 rcases h with⟨rfl,rfl⟩|⟨f',g,a,rfl,hm,hl⟩
 .rfl
 .simp[A0D,hm,hl]
section
variable {C:Ctx} {M:Mem} {K:AV->Mem->Prop}
def push{own vec:Bool}{st xt e:TypeId}{bytes m:Nat}{s x:AV}{cs news:List AV}{tg:Tag K}(h1:A1b C.P st=some e)(h2:A4j C.P xt)(h3:A4g C.P e 1 bytes)(ho:D5t e M s cs)
 (hx:A0D M 1 x=some (news,m))(hm:news.length=m)(hb:(cs.length+m)*bytes<=140737488355328)(b:vec=true)
 (hk:∀v' M',D5t e M' v' (cs++news)->A0d (obj s) M M'->(obj v'=obj s\/A1L M.length v')->(news=[]->v'=s/\M'=M)->K v' M'):A3s C own vec st xt s x M K tg:=by
 subst b
 rcases ho with⟨rfl,rfl⟩|⟨f,g,a,rfl,hf,hl⟩
 .refine A5n h1 h2 h3 (by rfl) hx hb (by simp only[A5q,hx]) ?_ rfl;simp only[A6u,hx];by_cases h0:m=0
  .rw[Z0c h0];have hn:news=[]:=Z0w Q0;subst hn;exact hk _ _ (.inl ⟨rfl,rfl⟩) (A0d.refl _ _) (.inl rfl) λ_=>⟨rfl,rfl⟩
  .rw[Z0d h0];(refine hk _ _ (.inr ⟨M.length,0,[(0,m)],by simp[hm],Q1,by simp[List.lookup,hm]⟩) (.app _ _ _) (.inr ?_) λhn=>by subst hn;simp at hm;omega);intro f hf;simp at hf;omega
 .have d:A0D M 1 (.vref f g 1 0 cs.length)=some (cs,cs.length):=D5t.src (.inr ⟨f,g,a,rfl,hf,hl⟩);refine A5n h1 h2 h3 d hx hb ?_ ?_ rfl
  .simp only[A5q,hx,hf,hl];by_cases h0:0<m<;>simp<;>omega
  .simp only[A6u,hx,hf,hl];rw[Z0c Q1];by_cases h0:m=0
   .rw[Z0c h0];have hn:news=[]:=Z0w Q0;subst hn;simp only[Z1b]at hk;exact hk _ _ (.inr ⟨f,g,a,rfl,hf,hl⟩) (A0d.refl _ _) (.inl rfl) λ_=>⟨rfl,rfl⟩
   .rw[Z0d h0];have c:f<M.length:=(Z0a.1 hf).1;refine hk _ _ (.inr ⟨f,g+1,(g+1,cs.length+m)::a.filter (λp=>decide (p.2<=cs.length)),by simp[hm],by simp[c,Z0e],by simp[List.lookup,hm]⟩) (.set _ _ _) (.inl rfl) λhn=>by subst hn;simp at hm;omega
end
section
variable (gl:Nat->AV) (M:Mem)
def D8C(c:Int):Bool:=decide (c=44)||decide (c=59)||decide (c=46)||decide (c=58)||decide (c=41)
def B4t{s:ByteArray}:s=⟨#[]⟩<->s.size=0:=by
 constructor
 .rintro rfl;rfl
 .intro h;refine D5d ?_;have:s.data.size=0:=h;simp[Array.eq_empty_of_size_eq_zero this]
end
open Go.Proofs TryTypes
section
variable (gl:Nat->AV) (M:Mem)
def A4E(n:Nat)(M M':Mem):Prop:=M.length<=M'.length/\∀i,i<n->M'[i]?=M[i]?
def A4E.trans{n:Nat}{A B C:Mem}(h1:A4E n A B)(h2:A4E n B C):A4E n A C:=⟨Z0J h1.1 h2.1,λi hi=>(h2.2 i hi).trans (h1.2 i hi)⟩
end
section
variable (gl:Nat->AV) (M:Mem)
def B1A{s:ByteArray}{i j k:Nat}(h:i+k<j)(hj:j<=s.size):A2t (s.extract i j) k=A2t s (i+k):=by
 have h1:k<(s.extract i j).size:=ZAB
 have h2:i+k<s.size:=Q0;have e:(s.extract i j)[k]=s[i+k]:=ByteArray.getElem_extract h1;have g:∀(t:ByteArray) (n:Nat) (h:n<t.size),A2t t n=(t[n].toNat:Int):=by intro t n h;have h':n<t.data.size:=h;simp only[A2t,Z4h,Z1g h',Z1m];rfl
 rw[g _ _ h1,g _ _ h2,e]
end
def A1O{i:Nat}(h:i<=1000000):IntKind.i64.wrap ((i:Int)+1)=((i+1:Nat):Int):=ZAW
section
variable (gl:Nat->AV) {α:Type} {enc:α->List AV} {c:α->α->Int} {fid:FuncId} {first cap:List AV} {f g n:Nat} {M0:Mem}
end
open Go.Proofs TryTypes Tryz
def A6o(x y:Int):Int:=if x<y then -1 else if y<x then 1 else 0
def orL:List Int->Int
 |[]=>0
 |x::l=>if x=0 then orL l else x
def A4X(l:List Int):List (List AV):=l.map λx=>[I x]
@[simp] def E0w(l:List Int):(A4X l).length=l.length:=by simp[A4X]
@[simp] def E0m{p:List Int}{i:Nat}(h:i<(A4X p).length):(A4X p)[i]=[I (p[i]'ZAJ)]:=by simp[A4X]
section
variable (gl:Nat->AV) (M:Mem)
def C3D(x:Int):A0c (WC gl) 104 [I x] M (λv M'=>v=B false/\M'=M):=by refine A1f hB func104 rfl rfl rfl rfl rfl rfl ?_;simp -dsimp
def B4Q(x y:Int):A0c (WC gl) 78 [I x,I y] M (λv M'=>v=I (A6o x y)/\M'=M):=by
 refine A1f hB func78 rfl rfl rfl rfl rfl rfl ?_;simp -dsimp;refine A0s (A0l func104 rfl rfl (C3D gl M x)) ?_;rintro _ _ ⟨rfl,rfl⟩;simp -dsimp;refine A0s (A0l func104 rfl rfl (C3D gl _ y)) ?_;rintro _ _ ⟨rfl,rfl⟩;by_cases h1:x<y
 .simp -dsimp[h1,A6o]
 .by_cases h2:y<x
  .have a:x>y:=h2;simp -dsimp[h1,h2,a,A6o]
  .have a:¬x>y:=h2;simp -dsimp[h1,h2,a,A6o]
def D7N(l:List Int)(hl:l.length<=3000):A0c (WC gl) 77 [.list 1 (A4X l) .full] M (λv M'=>v=I (orL l)/\M'=M):=by
 refine A1f hB func77 rfl rfl rfl rfl rfl rfl ?_;simp -dsimp;refine A0M hB (λT M1=>∃i:Nat,i<=l.length/\T 3=I 0/\T 6=.list 1 (A4X l) .full/\T 7=I l.length/\T 8=I i/\M1=M/\orL l=orL (l.drop i)) (λT _=>match T 8 with|.val (.int _ i)=>l.length-i.toNat|_=>0) Q2 ?_ ?_
 .exact⟨0,Q0,Q1,Q1,Q1,Q1,rfl,Q1⟩
 .rintro T M1 ⟨i,i1,t3,t6,t7,t8,rfl,ho⟩;by_cases hi:i<l.length
  .have a:(i:Int)<l.length:=Q0;have w1:=A1O (i:=i) Q0;have hd:l.drop i=l[i]::l.drop (i+1):=Z0m hi;by_cases h0:l[i]=0
   .rw[hd,orL,Z0c h0]at ho;simp -dsimp[t3,t6,t7,t8,hi,a,h0,w1];exact⟨⟨i+1,Q3,rfl,ho⟩,Q3⟩
   .rw[hd,orL,Z0d h0]at ho;simp -dsimp[t3,t6,t7,t8,hi,a,h0,ho]
  .have a:¬(i:Int)<l.length:=Q0;rw[show l.drop i=[]from Z0v Q0]at ho;simp -dsimp[t3,t6,t7,t8,a,ho,orL]
end
end Go.Abs
