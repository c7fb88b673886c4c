/- The texts K1, K20, K24. -/
import Derived.Test.YtmpdkagfplajjaaGreatDoorFG22
import Derived.Test.YtmpdkagfplajjaaGreatDoorFG18
import Derived.Test.YtmpdkagfplajjaaGreatDoorRows
import Derived.Test.YtmpdkagfplajjaaGreatDoorFG17
set_option linter.all false
section
open Go Go.Abs Go.Proofs
namespace K1
def E0:A8F:=⟨λ_=>.bool,λ_=>0,0⟩
def u8s(n:Nat):Sh:=.parts (List.replicate n (.int .u8))
open Go.Proofs.YtmpdkagfplajjaaGreatDoor.Rows hiding none
noncomputable def cl{H:Type}(sh:Sh)(d:DataW H):AV:=match A3X E0 400 sh d with
 |some l=>.cptr l
 |none=>.poison
noncomputable def glT:Nat->AV
 |0=>cl (.parts (List.replicate 8 (.slice 1 (.int .i64)))) (laid_pandect_unit_below (H:=Unit))
 |1=>cl (.parts (List.replicate 8 .str)) (laid_pandect_unit_names (H:=Unit))
 |3=>.cptr [.func (.func 444) [] [],.func (.func 445) [] []]
 |6=>cl (u8s 256) laid_unicode_utf8_first
 |7=>cl (.parts (List.replicate 16 (u8s 2))) (laid_unicode_utf8_acceptRanges (H:=Unit))
 |8=>cl (.parts (List.replicate 20 (.int .u64))) (laid_internal_strconv_uint64pow10 (H:=Unit))
 |9=>cl (u8s 32) (laid_math_bits_deBruijn32tab (H:=Unit))
 |10=>cl (u8s 64) (laid_math_bits_deBruijn64tab (H:=Unit))
 |_=>.poison
noncomputable def C0:Ctx:=⟨Tryz.prog,glT,λ_=>none,λ_=>false⟩
abbrev E3z:=Nat->Option A0l
def D8T(args:List AV)(_:E3z):Option AV:=match args with
 |[v]=>some v
 |_=>none
def B8E(args:List AV)(_:E3z):Option AV:=match args with
 |[.val (.string s),.val (.int .u8 c)]=>some (.val (match(List.range s.size).find? λi=>s[i]! ==c.toNat.toUInt8 with
  |some i=>goInt i
  |none=>goInt (-1)))
 |_=>none
def Y0:C5N:=λf=>match Nat.beq f 170 with
 |true=>some D8T
 |false=>match Nat.beq f 344 with
  |true=>some B8E
  |false=>none
end K1
end
section
set_option maxRecDepth 1000000
open Go Go.Abs Go.Proofs
namespace K1
abbrev I(n:Int):AV:=.val (.int .i64 n)
abbrev B(b:Bool):AV:=.val (.bool b)
abbrev S(l:List UInt8):AV:=.val (.string ⟨l.toArray⟩)
abbrev N:AV:=.val (.slice none 0 0)
noncomputable def t1:BT:=mkT 7 [
 (0,B false),
 (1,.ptr 8 0),
 (2,.vref 16 1 5 0 2),
 (3,.ptr 239 0),
 (4,.vref 236 1 6 0 2),
 (5,I (0)),
 (9,.vref 0 0 1 0 3),
 (10,.agg [I (1),I (0),I (1),I (2),S [53],N,.vref 4 2 4 0 3,N]),
 (11,.agg [I (1),I (0),I (2),I (2),S [50],N,N,N]),
 (12,.vref 7 0 8 0 2),
 (13,.agg [I (0),I (0),I (0),I (0),S [],N,N,.vref 7 0 8 0 2]),
 (14,.agg [I (0),I (0),I (0),I (0),S [],N,N,.vref 7 0 8 0 2]),
 (15,.vref 16 1 5 0 2),
 (16,.vref 16 1 5 0 2),
 (17,.agg [I (1),I (0),I (2)]),
 (18,.agg [I (1),I (0),I (2),I (-1),S [50]]),
 (19,.agg [I (1),I (0),I (1)]),
 (20,.agg [I (1),I (0),I (1),I (-1),S [53]]),
 (21,.vref 19 0 5 0 2),
 (22,B true),
 (23,B false),
 (24,B false),
 (25,.agg [I (0),I (0),I (0),I (0),S [],N,N,.vref 7 0 8 0 2]),
 (26,.vref 16 1 5 0 2),
 (27,I (0)),
 (28,B false),
 (29,B false),
 (30,.vref 16 1 5 0 2),
 (31,.vref 16 1 5 0 2),
 (32,.vptr 16 1 0),
 (33,.vptr 16 1 4),
 (34,.vptr 16 1 5),
 (35,.vptr 16 1 9),
 (36,.tuple [.agg [I (9),S [99,111,100,105,102,105,99,97,116,105,111,110],I (40),I (1),I (40),S [],.vref 66 3 25 0 4],.vref 236 1 6 0 2,I (0)]),
 (37,.agg [I (0),I (0),I (0),I (0),S [],N,N,.vref 7 0 8 0 2]),
 (38,.vref 16 1 5 0 2),
 (39,.agg [I (1),I (0),I (1)]),
 (40,.agg [I (1),I (0),I (2)]),
 (41,.vref 20 0 3 0 1),
 (42,.agg [I (1),I (0),I (1),I (0),.vref 20 0 3 0 1]),
 (43,.vref 21 0 5 0 1),
 (44,.tuple [.agg [I (9),S [99,111,100,105,102,105,99,97,116,105,111,110],I (40),I (1),I (40),S [],.vref 66 3 25 0 4],.vref 236 1 6 0 2,I (0)]),
 (45,.agg [I (9),S [99,111,100,105,102,105,99,97,116,105,111,110],I (40),I (1),I (40),S [],.vref 66 3 25 0 4]),
 (46,.vref 236 1 6 0 2),
 (47,I (0))
]
noncomputable def h1:HT:=mkH [
 .vec 9 1 [S [115,101,101],S [115,101,99,116,105,111,110],S [50,44]] 0 [(0,3)],
 .cells 27 [I (1),I (0),I (1),I (2),S [53],N,.vref 4 2 4 0 3,N],
 .cells 27 [I (1),I (0),I (1),I (2),S [53],N,.vref 4 2 4 0 3,N],
 .vec 152 4 [S [115,101,101],I (0),I (0),I (0)] 0 [(0,1)],
 .vec 152 4 [S [115,101,101],I (0),I (0),I (0),S [115,101,99,116,105,111,110],I (0),I (0),I (0),S [50,44],I (0),I (0),I (0)] 2 [(2,3),(1,2),(0,1)],
 .vec 152 4 [S [115,101,99,116,105,111,110],I (0),I (0),I (0)] 0 [(0,1)],
 .vec 152 4 [S [50,44],I (0),I (0),I (0)] 0 [(0,1)],
 .vec 27 8 [I (1),I (0),I (1),I (2),S [53],N,.vref 4 2 4 0 3,N,I (1),I (0),I (2),I (2),S [50],N,N,N] 0 [(0,2)],
 .cells 27 [I (0),I (0),I (0),I (0),S [],N,N,.vref 7 0 8 0 2],
 .cells 27 [I (0),I (0),I (0),I (0),S [],N,N,.vref 7 0 8 0 2],
 .cells 28 [.vref 16 1 5 0 2],
 .cells 100 [.func (.func 51) [] [.ptr 10 0,.ptr 11 0]],
 .cells 27 [I (0),I (0),I (0),I (0),S [],N,N,.vref 7 0 8 0 2],
 .vec 27 8 [I (1),I (0),I (2),I (2),S [50],N,N,N,I (1),I (0),I (1),I (2),S [53],N,.vref 4 2 4 0 3,N] 1 [(1,2),(0,0)],
 .cells 27 [I (1),I (0),I (2),I (2),S [50],N,N,N],
 .vec 69 5 [I (1),I (0),I (2),I (-1),S [50]] 0 [(0,1)],
 .vec 69 5 [I (1),I (0),I (2),I (-1),S [49],I (1),I (0),I (1),I (-1),S [50]] 1 [(1,2)],
 .cells 27 [I (1),I (0),I (1),I (2),S [53],N,.vref 4 2 4 0 3,N],
 .vec 69 5 [I (1),I (0),I (1),I (-1),S [53]] 0 [(0,1)],
 .vec 69 5 [I (1),I (0),I (2),I (-1),S [50],I (1),I (0),I (1),I (-1),S [53]] 0 [(0,2)],
 .vec 23 3 [I (1),I (0),I (2)] 0 [(0,1)],
 .vec 90 5 [I (1),I (0),I (1),I (0),.vref 20 0 3 0 1] 0 [(0,1)],
 .cells 27 [I (0),I (0),I (0),I (0),S [],N,N,.vref 7 0 8 0 2],
 .cells 3 [I (9)],
 .cells 49 [I (9),S [99,111,100,105,102,105,99,97,116,105,111,110],I (40),I (1),I (40),S [],.vref 66 3 25 0 4],
 .cells 27 [I (0),I (0),I (0),I (0),S [],N,N,.vref 7 0 8 0 2],
 .cells 96 [.vref 16 1 5 0 2,.mapr 27,.mapr 33,.mapr 34],
 .map [(.agg [I (0),I (0),I (0)],.agg [I (0),I (0),I (0),I (0),S [],N,N,.vref 7 0 8 0 2],0),(.agg [I (1),I (0),I (1)],.agg [I (1),I (0),I (1),I (2),S [53],N,.vref 4 2 4 0 3,N],1),(.agg [I (1),I (0),I (2)],.agg [I (1),I (0),I (2),I (2),S [50],N,N,N],2)] 3,
 .cells 27 [I (0),I (0),I (0),I (0),S [],N,N,.vref 7 0 8 0 2],
 .cells 27 [I (1),I (0),I (1),I (2),S [53],N,.vref 4 2 4 0 3,N],
 .cells 27 [I (1),I (0),I (1),I (2),S [53],N,.vref 4 2 4 0 3,N],
 .cells 27 [I (1),I (0),I (2),I (2),S [50],N,N,N],
 .cells 27 [I (1),I (0),I (2),I (2),S [50],N,N,N],
 .map [(.agg [I (1),I (0),I (2)],I (0),0),(.agg [I (1),I (0),I (1)],I (1),1)] 2,
 .map [(I (-1),.vref 38 1 1 0 2,0)] 1,
 .cells 96 [.vref 16 1 5 0 2,.mapr 27,.mapr 33,.mapr 34],
 .cells 69 [I (1),I (0),I (2),I (-1),S [49]],
 .vec 3 1 [I (0)] 0 [(0,1)],
 .vec 3 1 [I (0),I (1)] 1 [(1,2),(0,1)],
 .cells 69 [I (1),I (0),I (1),I (-1),S [50]],
 .vec 3 1 [I (1)] 0 [(0,1)],
 .cells 96 [.vref 16 1 5 0 2,.mapr 27,.mapr 33,.mapr 34],
 .cells 27 [I (0),I (0),I (0),I (0),S [],N,N,.vref 7 0 8 0 2],
 .cells 85 [.vref 47 2 3 0 3],
 .cells 27 [I (0),I (0),I (0),I (0),S [],N,N,.vref 7 0 8 0 2],
 .cells 27 [I (0),I (0),I (0),I (0),S [],N,N,.vref 7 0 8 0 2],
 .vec 23 3 [I (0),I (0),I (0)] 0 [(0,1)],
 .vec 23 3 [I (0),I (0),I (0),I (1),I (0),I (1),I (1),I (0),I (2)] 2 [(2,3),(1,2),(0,1)],
 .cells 27 [I (1),I (0),I (1),I (2),S [53],N,.vref 4 2 4 0 3,N],
 .cells 27 [I (1),I (0),I (1),I (2),S [53],N,.vref 4 2 4 0 3,N],
 .cells 27 [I (1),I (0),I (1),I (2),S [53],N,.vref 4 2 4 0 3,N],
 .vec 23 3 [I (1),I (0),I (1)] 0 [(0,1)],
 .cells 27 [I (1),I (0),I (2),I (2),S [50],N,N,N],
 .cells 27 [I (1),I (0),I (2),I (2),S [50],N,N,N],
 .cells 27 [I (1),I (0),I (2),I (2),S [50],N,N,N],
 .vec 23 3 [I (1),I (0),I (2)] 0 [(0,1)],
 .cells 49 [I (9),S [99,111,100,105,102,105,99,97,116,105,111,110],I (40),I (1),I (40),S [],.vref 66 3 25 0 4],
 .cells 27 [I (1),I (0),I (1),I (2),S [53],N,.vref 4 2 4 0 3,N],
 .cells 27 [I (0),I (0),I (0),I (0),S [],N,N,.vref 7 0 8 0 2],
 .cells 23 [I (1),I (0),I (1)],
 .cells 27 [I (0),I (0),I (0),I (0),S [],N,N,.vref 7 0 8 0 2],
 .cells 23 [I (1),I (0),I (1)],
 .cells 27 [I (1),I (0),I (1),I (2),S [53],N,.vref 4 2 4 0 3,N],
 .vec 159 2 [I (2),S [53]] 0 [(0,1)],
 .vec 159 2 [I (0),S [],I (2),S [53]] 1 [(1,2),(0,1)],
 .vec 128 25 [I (1),.vref 64 1 2 0 2,N,I (0),I (0),I (0),I (0),I (0),I (0),S [],N,N,N,N,N,S [],S [],I (0),I (0),S [],I (0),I (0),I (0),S [],N] 0 [(0,1)],
 .vec 128 25 [I (1),.vref 64 1 2 0 2,N,I (0),I (0),I (0),I (0),I (0),I (0),S [],N,N,N,N,N,S [],S [],I (0),I (0),S [],I (0),I (0),I (0),S [],N,I (1),.vref 75 1 2 0 2,N,I (0),I (0),I (0),I (0),I (0),I (0),S [],N,N,N,N,N,S [],S [],I (0),I (0),S [],I (0),I (0),I (0),S [],N,I (0),N,N,I (1),I (0),I (0),I (0),I (0),I (2),S [49],N,N,N,N,N,S [],S [],I (0),I (0),S [],I (0),I (0),I (0),S [],N,I (0),N,N,I (1),I (0),I (0),I (0),I (0),I (2),S [50],N,.vref 226 3 4 0 4,N,N,N,S [],S [],I (0),I (0),S [],I (0),I (0),I (0),S [],N] 3 [(3,4),(2,3),(1,2),(0,1)],
 .cells 27 [I (1),I (0),I (2),I (2),S [50],N,N,N],
 .cells 27 [I (0),I (0),I (0),I (0),S [],N,N,.vref 7 0 8 0 2],
 .cells 23 [I (1),I (0),I (2)],
 .cells 27 [I (0),I (0),I (0),I (0),S [],N,N,.vref 7 0 8 0 2],
 .cells 23 [I (1),I (0),I (2)],
 .cells 27 [I (1),I (0),I (1),I (2),S [53],N,.vref 4 2 4 0 3,N],
 .cells 27 [I (1),I (0),I (2),I (2),S [50],N,N,N],
 .vec 159 2 [I (2),S [50]] 0 [(0,1)],
 .vec 159 2 [I (0),S [],I (2),S [50]] 1 [(1,2),(0,1)],
 .vec 128 25 [I (1),.vref 75 1 2 0 2,N,I (0),I (0),I (0),I (0),I (0),I (0),S [],N,N,N,N,N,S [],S [],I (0),I (0),S [],I (0),I (0),I (0),S [],N] 0 [(0,1)],
 .map [(.agg [I (1),I (0),I (2)],.agg [I (9),I (2),I (1)],0),(.agg [I (1),I (0),I (1)],.agg [I (9),I (3),I (1)],1)] 2,
 .cells 96 [.vref 16 1 5 0 2,.mapr 27,.mapr 33,.mapr 34],
 .cells 27 [I (0),I (0),I (0),I (2),S [49],N,N,N],
 .vec 27 8 [I (1),I (0),I (2),I (2),S [50],N,N,N] 1 [(1,1)],
 .vec 27 8 [I (0),I (0),I (0),I (2),S [49],N,N,N] 1 [(1,1)],
 .vec 23 3 [I (1),I (0),I (2)] 0 [(0,1)],
 .cells 27 [I (0),I (0),I (0),I (2),S [49],N,N,N],
 .cells 23 [I (1),I (0),I (2)],
 .vec 128 25 [I (0),N,N,I (1),I (0),I (0),I (0),I (0),I (2),S [49],N,N,N,N,N,S [],S [],I (0),I (0),S [],I (0),I (0),I (0),S [],N] 0 [(0,1)],
 .cells 96 [.vref 16 1 5 0 2,.mapr 27,.mapr 33,.mapr 34],
 .cells 27 [I (0),I (0),I (0),I (2),S [50],N,.vref 226 3 4 0 4,N],
 .vec 27 8 [I (1),I (0),I (1),I (2),S [53],N,.vref 4 2 4 0 3,N] 1 [(1,1)],
 .cells 96 [.vref 16 1 5 0 2,.mapr 27,.mapr 33,.mapr 34],
 .cells 27 [I (1),I (0),I (1),I (2),S [53],N,.vref 4 2 4 0 3,N],
 .cells 152 [S [115,101,101],I (0),I (0),I (0)],
 .vec 9 1 [S [115,101,101]] 0 [(0,1)],
 .vec 9 1 [S [115,101,101],S [115,101,99,116,105,111,110],S [50,44]] 2 [(2,3),(1,2),(0,1)],
 .cells 152 [S [115,101,99,116,105,111,110],I (0),I (0),I (0)],
 .vec 9 1 [S [115,101,99,116,105,111,110]] 0 [(0,1)],
 .cells 152 [S [50,44],I (0),I (0),I (0)],
 .vec 9 1 [S [50,44]] 0 [(0,1)],
 .cells 110 [I (0),N,S [],I (0),I (0)],
 .cells 110 [I (0),.vref 110 0 2 0 1,S [],I (1),I (3)],
 .cells 110 [I (0),.vref 110 0 2 0 1,S [],I (1),I (3)],
 .vec 237 1 [.func (.func 247) [] [],.func (.func 249) [] [],.func (.func 250) [] [],.func (.func 253) [] [],.func (.func 254) [] []] 0 [(0,5)],
 .cells 240 [.vref 93 2 1 0 3,I (3),B true],
 .cells 110 [I (0),.vref 110 0 2 0 1,S [],I (0),I (0)],
 .vec 9 1 [S [],S [112,97,114,116],S [115,101,99,116,105,111,110],S [112,97,114,97,103,114,97,112,104],S [116,97,98,108,101],S [114,111,119],S [99,101,108,108],S [110,111,116,101]] 0 [(0,8)],
 .cells 159 [I (2),S [50]],
 .cells 240 [.vref 93 2 1 0 3,I (1),B false],
 .cells 37 [.vref 104 0 1 0 8],
 .cells 159 [I (2),S [50]],
 .vec 159 2 [I (2),S [50]] 0 [(0,1)],
 .vec 159 2 [I (2),S [50]] 0 [(0,1)],
 .vec 9 1 [S [],S [112,97,114,116],S [115,101,99,116,105,111,110],S [112,97,114,97,103,114,97,112,104],S [116,97,98,108,101],S [114,111,119],S [99,101,108,108],S [110,111,116,101]] 0 [(0,8)],
 .cells 159 [I (0),S []],
 .cells 240 [.vref 93 2 1 0 3,I (3),B true],
 .cells 159 [I (0),S []],
 .cells 110 [I (0),.vref 110 0 2 0 1,S [],I (1),I (3)],
 .cells 240 [.vref 93 2 1 0 3,I (3),B true],
 .cells 110 [I (1),.vref 124 0 2 0 1,S [],I (0),I (0)],
 .vec 9 1 [S [],S [112,97,114,116],S [115,101,99,116,105,111,110],S [112,97,114,97,103,114,97,112,104],S [116,97,98,108,101],S [114,111,119],S [99,101,108,108],S [110,111,116,101]] 0 [(0,8)],
 .cells 159 [I (2),S [50]],
 .cells 240 [.vref 93 2 1 0 3,I (1),B false],
 .cells 37 [.vref 118 0 1 0 8],
 .cells 159 [I (2),S [50]],
 .vec 159 2 [I (2),S [50]] 0 [(0,1)],
 .vec 159 2 [I (2),S [50]] 0 [(0,1)],
 .vec 9 1 [S [],S [112,97,114,116],S [115,101,99,116,105,111,110],S [112,97,114,97,103,114,97,112,104],S [116,97,98,108,101],S [114,111,119],S [99,101,108,108],S [110,111,116,101]] 0 [(0,8)],
 .cells 159 [I (0),S []],
 .cells 240 [.vref 93 2 1 0 3,I (3),B true],
 .cells 159 [I (0),S []],
 .cells 110 [I (1),.vref 124 0 2 0 1,S [],I (0),I (0)],
 .vec 9 1 [S [],S [112,97,114,116,115],S [115,101,99,116,105,111,110,115],S [112,97,114,97,103,114,97,112,104,115],S [116,97,98,108,101,115],S [114,111,119,115],S [],S [110,111,116,101,115]] 0 [(0,8)],
 .cells 159 [I (0),S []],
 .cells 240 [.vref 93 2 1 0 3,I (3),B true],
 .cells 159 [I (0),S []],
 .cells 110 [I (1),.vref 124 0 2 0 1,S [],I (1),I (3)],
 .cells 240 [.vref 93 2 1 0 3,I (1),B false],
 .cells 110 [I (2),N,S [],I (1),I (1)],
 .cells 240 [.vref 93 2 1 0 3,I (1),B false],
 .cells 110 [I (3),N,S [],I (1),I (1)],
 .cells 240 [.vref 93 2 1 0 3,I (1),B false],
 .cells 110 [I (4),N,S [],I (1),I (1)],
 .cells 110 [I (0),.vref 110 0 2 0 1,S [],I (1),I (3)],
 .vec 110 5 [I (0),.vref 110 0 2 0 1,S [],I (1),I (3)] 0 [(0,1)],
 .vec 110 5 [I (0),.vref 110 0 2 0 1,S [],I (1),I (3)] 0 [(0,1)],
 .cells 110 [I (0),.vref 110 0 2 0 1,S [],I (1),I (3)],
 .cells 96 [.vref 16 1 5 0 2,.mapr 27,.mapr 33,.mapr 34],
 .cells 23 [I (1),I (0),I (1)],
 .cells 3 [I (0)],
 .cells 23 [I (1),I (0),I (2)],
 .cells 96 [.vref 16 1 5 0 2,.mapr 27,.mapr 33,.mapr 34],
 .cells 69 [I (1),I (0),I (2),I (-1),S [49]],
 .cells 96 [.vref 16 1 5 0 2,.mapr 27,.mapr 33,.mapr 34],
 .vec 159 2 [I (0),S [],I (2),S [49]] 1 [(1,2),(0,1)],
 .vec 159 2 [I (2),S [49]] 0 [(0,1)],
 .vec 40 1 [.vref 152 1 2 0 2] 0 [(0,1)],
 .vec 40 1 [.vref 152 1 2 0 2] 0 [(0,1)],
 .vec 110 5 [I (0),.vref 110 0 2 0 1,S [],I (1),I (3)] 0 [(0,1)],
 .vec 110 5 [I (0),.vref 110 0 2 0 1,S [],I (1),I (3)] 0 [(0,1)],
 .vec 40 1 [.vref 152 1 2 0 2] 0 [(0,1)],
 .vec 40 1 [.vref 152 1 2 0 2] 0 [(0,1)],
 .vec 110 5 [I (0),.vref 152 1 2 0 2,S [],I (0),I (0)] 0 [(0,1)],
 .vec 110 5 [I (0),.vref 152 1 2 0 2,S [],I (0),I (0)] 0 [(0,1)],
 .cells 110 [I (0),.vref 110 0 2 0 1,S [],I (1),I (3)],
 .cells 110 [I (0),.vref 152 1 2 0 2,S [],I (0),I (0)],
 .cells 110 [I (0),.vref 152 1 2 0 2,S [],I (0),I (0)],
 .cells 159 [I (0),S []],
 .vec 9 1 [S [98,111,111,107]] 0 [(0,1)],
 .vec 9 1 [S [98,111,111,107],S [115,101,99,116,105,111,110],S [49]] 1 [(1,3),(0,1)],
 .cells 159 [I (2),S [49]],
 .vec 9 1 [S [],S [112,97,114,116],S [115,101,99,116,105,111,110],S [112,97,114,97,103,114,97,112,104],S [116,97,98,108,101],S [114,111,119],S [99,101,108,108],S [110,111,116,101]] 0 [(0,8)],
 .vec 9 1 [S [115,101,99,116,105,111,110],S [49]] 0 [(0,2)],
 .vec 9 1 [S [115,101,101],S [98,111,111,107],S [115,101,99,116,105,111,110],S [49,44]] 1 [(1,4),(0,1)],
 .cells 116 [.ptr 172 0,.vref 173 1 1 0 2],
 .gone,
 .cells 110 [I (0),N,S [],I (0),I (0)],
 .cells 110 [I (0),.vref 182 1 2 0 2,S [],I (1),I (4)],
 .cells 110 [I (0),.vref 182 1 2 0 2,S [],I (1),I (4)],
 .vec 237 1 [.func (.func 247) [] [],.func (.func 249) [] [],.func (.func 250) [] [],.func (.func 253) [] [],.func (.func 254) [] []] 0 [(0,5)],
 .cells 240 [.vref 171 1 1 0 4,I (4),B true],
 .cells 110 [I (0),.vref 182 1 2 0 2,S [],I (0),I (0)],
 .cells 9 [S [98,111,111,107]],
 .vec 159 2 [I (0),S []] 0 [(0,1)],
 .vec 159 2 [I (0),S [],I (2),S [49]] 1 [(1,2),(0,1)],
 .vec 9 1 [S [],S [112,97,114,116],S [115,101,99,116,105,111,110],S [112,97,114,97,103,114,97,112,104],S [116,97,98,108,101],S [114,111,119],S [99,101,108,108],S [110,111,116,101]] 0 [(0,8)],
 .cells 159 [I (2),S [49]],
 .cells 240 [.vref 171 1 1 0 4,I (2),B false],
 .cells 37 [.vref 183 0 1 0 8],
 .cells 159 [I (2),S [49]],
 .vec 159 2 [I (2),S [49]] 0 [(0,1)],
 .vec 9 1 [S [],S [112,97,114,116],S [115,101,99,116,105,111,110],S [112,97,114,97,103,114,97,112,104],S [116,97,98,108,101],S [114,111,119],S [99,101,108,108],S [110,111,116,101]] 0 [(0,8)],
 .cells 159 [I (0),S []],
 .cells 240 [.vref 171 1 1 0 4,I (4),B true],
 .cells 159 [I (0),S []],
 .cells 110 [I (0),.vref 182 1 2 0 2,S [],I (1),I (4)],
 .cells 240 [.vref 171 1 1 0 4,I (4),B true],
 .cells 110 [I (1),.vref 198 1 2 0 2,S [],I (0),I (0)],
 .cells 9 [S [98,111,111,107]],
 .vec 159 2 [I (0),S []] 0 [(0,1)],
 .vec 159 2 [I (0),S [],I (2),S [49]] 1 [(1,2),(0,1)],
 .vec 9 1 [S [],S [112,97,114,116],S [115,101,99,116,105,111,110],S [112,97,114,97,103,114,97,112,104],S [116,97,98,108,101],S [114,111,119],S [99,101,108,108],S [110,111,116,101]] 0 [(0,8)],
 .cells 159 [I (2),S [49]],
 .cells 240 [.vref 171 1 1 0 4,I (2),B false],
 .cells 37 [.vref 199 0 1 0 8],
 .cells 159 [I (2),S [49]],
 .vec 159 2 [I (2),S [49]] 0 [(0,1)],
 .vec 9 1 [S [],S [112,97,114,116],S [115,101,99,116,105,111,110],S [112,97,114,97,103,114,97,112,104],S [116,97,98,108,101],S [114,111,119],S [99,101,108,108],S [110,111,116,101]] 0 [(0,8)],
 .cells 159 [I (0),S []],
 .cells 240 [.vref 171 1 1 0 4,I (4),B true],
 .cells 159 [I (0),S []],
 .cells 110 [I (1),.vref 198 1 2 0 2,S [],I (0),I (0)],
 .vec 9 1 [S [],S [112,97,114,116,115],S [115,101,99,116,105,111,110,115],S [112,97,114,97,103,114,97,112,104,115],S [116,97,98,108,101,115],S [114,111,119,115],S [],S [110,111,116,101,115]] 0 [(0,8)],
 .cells 159 [I (0),S []],
 .cells 240 [.vref 171 1 1 0 4,I (4),B true],
 .cells 159 [I (0),S []],
 .cells 110 [I (1),.vref 198 1 2 0 2,S [],I (1),I (4)],
 .cells 240 [.vref 171 1 1 0 4,I (1),B false],
 .cells 110 [I (2),N,S [],I (1),I (1)],
 .cells 240 [.vref 171 1 1 0 4,I (1),B false],
 .cells 110 [I (3),N,S [],I (1),I (1)],
 .cells 240 [.vref 171 1 1 0 4,I (1),B false],
 .cells 110 [I (4),N,S [],I (1),I (1)],
 .cells 110 [I (0),.vref 182 1 2 0 2,S [],I (1),I (4)],
 .vec 110 5 [I (0),.vref 182 1 2 0 2,S [],I (1),I (4)] 0 [(0,1)],
 .vec 110 5 [I (0),.vref 182 1 2 0 2,S [],I (1),I (4)] 0 [(0,1)],
 .vec 27 8 [I (0),I (0),I (0),I (2),S [50],N,.vref 226 3 4 0 4,N] 1 [(1,1)],
 .vec 152 4 [S [115,101,101],I (0),I (0),I (0)] 0 [(0,1)],
 .vec 152 4 [S [115,101,101],I (0),I (0),I (0),S [98,111,111,107],I (0),I (0),I (0),S [115,101,99,116,105,111,110],I (0),I (0),I (0),S [49,44],I (0),I (0),I (0)] 3 [(3,4),(2,3),(1,2),(0,1)],
 .vec 152 4 [S [98,111,111,107],I (0),I (0),I (0)] 0 [(0,1)],
 .vec 152 4 [S [115,101,99,116,105,111,110],I (0),I (0),I (0)] 0 [(0,1)],
 .vec 152 4 [S [49,44],I (0),I (0),I (0)] 0 [(0,1)],
 .vec 23 3 [I (1),I (0),I (1)] 0 [(0,1)],
 .cells 27 [I (0),I (0),I (0),I (2),S [50],N,.vref 226 3 4 0 4,N],
 .cells 23 [I (1),I (0),I (1)],
 .vec 128 25 [I (0),N,N,I (1),I (0),I (0),I (0),I (0),I (2),S [50],N,.vref 226 3 4 0 4,N,N,N,S [],S [],I (0),I (0),S [],I (0),I (0),I (0),S [],N] 0 [(0,1)],
 .cells 23 [I (1),I (0),I (1)],
 .vec 79 6 [I (1),I (0),I (1),I (9),I (3),I (1)] 0 [(0,1)],
 .vec 79 6 [I (1),I (0),I (1),I (9),I (3),I (1),I (1),I (0),I (2),I (9),I (2),I (1)] 1 [(1,2),(0,1)],
 .cells 23 [I (1),I (0),I (2)],
 .vec 79 6 [I (1),I (0),I (2),I (9),I (2),I (1)] 0 [(0,1)],
 .cells 49 [I (9),S [99,111,100,105,102,105,99,97,116,105,111,110],I (40),I (1),I (40),S [],.vref 66 3 25 0 4]
]
def n1:Nat:=240
def ws1:List Nat:=[]
noncomputable def c10:Code:=match Tryz.f10.body with|some c=>c|none=>.skip
noncomputable def t00:BT:=match BT.args [] 0 (BT.mk (Nat.log2 Tryz.f10.ntmps+1))with|some t=>t|none=>.leaf .poison
noncomputable def yc0:A9v:=B2R C0 Y0 4000 200
end K1
end
section
set_option maxRecDepth 1000000
open Go Go.Abs Go.Proofs K1
namespace K1
def E3q:Tryz.prog.funcs.toList.all B8z=true:=by kernel_rfl
end K1
end
