/- A part of the proof. -/
import Derived.Test.YtmpdkagfplajjaaGreatDoorAG16
import Derived.Test.YtmpdkagfplajjaaGreatDoorProg
set_option linter.all false
set_option maxRecDepth 100000
namespace Go.Abs
open Go.Proofs Tryz
namespace TryTypes
@[simp] def D9a:A2v prog 3=some false:=by kernel_rfl
@[simp] def sz3:A1e prog 3=some 1:=by kernel_rfl
@[simp] def D1z:A0D prog 3=some [.int .i64 0]:=by kernel_rfl
def D8u:A3O prog 3 1 8:=⟨_,_,type3,rfl,rfl,rfl,rfl,by decide⟩
@[simp] def E3R:A2v prog 4=some false:=by kernel_rfl
@[simp] def sz4:A1e prog 4=some 1:=by kernel_rfl
@[simp] def E3W:A2v prog 5=some false:=by kernel_rfl
@[simp] def sz5:A1e prog 5=some 1:=by kernel_rfl
def E2J:A3O prog 5 1 1:=⟨_,_,type5,rfl,rfl,rfl,rfl,by decide⟩
@[simp] def D4c:A2v prog 9=some false:=by kernel_rfl
@[simp] def sz9:A1e prog 9=some 1:=by kernel_rfl
@[simp] def E3c:A0D prog 9=some [.string ⟨#[]⟩]:=by kernel_rfl
def B0K:A3O prog 9 1 16:=⟨_,_,type9,rfl,rfl,rfl,rfl,by decide⟩
@[simp] def E3u:A2v prog 23=some true:=by kernel_rfl
@[simp] def E3M:A1e prog 23=some 3:=by kernel_rfl
@[simp] def E0C:A1D prog 23 0=some 0:=by kernel_rfl
@[simp] def E1k:A1g prog 23 0=some (0,3):=by kernel_rfl
@[simp] def E0O:A1g prog 23 1=some (1,3):=by kernel_rfl
@[simp] def E0f:A1g prog 23 2=some (2,3):=by kernel_rfl
@[simp] def E3J:A3S prog 23=true:=by kernel_rfl
@[simp] def E2g:A0D prog 23=some [.int .i64 0,.int .i64 0,.int .i64 0]:=by kernel_rfl
def C8z:A3O prog 23 3 24:=⟨_,_,type23,rfl,rfl,rfl,rfl,by decide⟩
@[simp] def E3C:A2v prog 24=some false:=by kernel_rfl
@[simp] def E4e:A1e prog 24=some 1:=by kernel_rfl
@[simp] def B8B:A0S prog 24=some 152:=by kernel_rfl
def C3P:A4v prog 24:=.inl ⟨152,by kernel_rfl⟩
@[simp] def E1S:A0D prog 24=some [.slice none 0 0]:=by kernel_rfl
@[simp] def E3L:A2v prog 25=some false:=by kernel_rfl
@[simp] def E4b:A1e prog 25=some 1:=by kernel_rfl
@[simp] def C7I:A0S prog 25=some 27:=by kernel_rfl
def D2q:A4v prog 25:=.inl ⟨27,by kernel_rfl⟩
@[simp] def D9e:A2v prog 27=some true:=by kernel_rfl
@[simp] def E2l:A1e prog 27=some 8:=by kernel_rfl
@[simp] def E0t:A1D prog 27 0=some 0:=by kernel_rfl
@[simp] def E1G:A1D prog 27 1=some 3:=by kernel_rfl
@[simp] def E0N:A1g prog 27 1=some (3,3):=by kernel_rfl
@[simp] def E1e:A1D prog 27 2=some 4:=by kernel_rfl
@[simp] def E0E:A1g prog 27 2=some (4,9):=by kernel_rfl
@[simp] def E0J:A1D prog 27 3=some 5:=by kernel_rfl
@[simp] def E0S:A1g prog 27 3=some (5,24):=by kernel_rfl
@[simp] def E0G:A1D prog 27 4=some 6:=by kernel_rfl
@[simp] def E0D:A1g prog 27 4=some (6,24):=by kernel_rfl
@[simp] def E1D:A1D prog 27 5=some 7:=by kernel_rfl
@[simp] def E3H:A3S prog 27=true:=by kernel_rfl
@[simp] def C2j:A0D prog 27=some [.int .i64 0,.int .i64 0,.int .i64 0,.int .i64 0,.string ⟨#[]⟩,.slice none 0 0,.slice none 0 0,.slice none 0 0]:=by kernel_rfl
def D2Y:A3O prog 27 8 120:=⟨_,_,type27,rfl,rfl,rfl,rfl,by decide⟩
@[simp] def E3q:A2v prog 28=some false:=by kernel_rfl
@[simp] def E3Q:A1e prog 28=some 1:=by kernel_rfl
@[simp] def E1V:A0S prog 28=some 69:=by kernel_rfl
@[simp] def E3l:A2v prog 37=some false:=by kernel_rfl
@[simp] def E3O:A1e prog 37=some 1:=by kernel_rfl
@[simp] def A4X:A0S prog 37=some 9:=by kernel_rfl
def A6S:A4v prog 37:=.inl ⟨9,by kernel_rfl⟩
@[simp] def E2P:A0D prog 37=some [.slice none 0 0]:=by kernel_rfl
@[simp] def B1k:A0S prog 38=some 110:=by kernel_rfl
def B5L:A4v prog 38:=.inl ⟨110,by kernel_rfl⟩
@[simp] def C7l:A0S prog 39=some 40:=by kernel_rfl
def D1m:A4v prog 39:=.inl ⟨40,by kernel_rfl⟩
@[simp] def E3f:A2v prog 40=some false:=by kernel_rfl
@[simp] def E4a:A1e prog 40=some 1:=by kernel_rfl
@[simp] def A7K:A0S prog 40=some 159:=by kernel_rfl
def B0S:A4v prog 40:=.inl ⟨159,by kernel_rfl⟩
@[simp] def E2j:A0D prog 40=some [.slice none 0 0]:=by kernel_rfl
def D0Y:A3O prog 40 1 24:=⟨_,_,type40,rfl,rfl,rfl,rfl,by decide⟩
@[simp] def E3s:A2v prog 69=some true:=by kernel_rfl
@[simp] def E3U:A1e prog 69=some 5:=by kernel_rfl
@[simp] def E1C:A1D prog 69 0=some 0:=by kernel_rfl
@[simp] def E1l:A1D prog 69 1=some 3:=by kernel_rfl
@[simp] def E1f:A1D prog 69 2=some 4:=by kernel_rfl
@[simp] def E2T:A0D prog 69=some [.int .i64 0,.int .i64 0,.int .i64 0,.int .i64 0,.string ⟨#[]⟩]:=by kernel_rfl
@[simp] def E3a:A2v prog 85=some false:=by kernel_rfl
@[simp] def E3P:A1e prog 85=some 1:=by kernel_rfl
@[simp] def C1L:A0S prog 85=some 23:=by kernel_rfl
def C7N:A4v prog 85:=.inl ⟨23,by kernel_rfl⟩
@[simp] def E2q:A0D prog 85=some [.slice none 0 0]:=by kernel_rfl
@[simp] def E3w:A2v prog 92=some false:=by kernel_rfl
@[simp] def E3Z:A1e prog 92=some 1:=by kernel_rfl
@[simp] def E3D:A2v prog 93=some false:=by kernel_rfl
@[simp] def E3X:A1e prog 93=some 1:=by kernel_rfl
@[simp] def E3x:A2v prog 94=some false:=by kernel_rfl
@[simp] def E4f:A1e prog 94=some 1:=by kernel_rfl
@[simp] def E3y:A2v prog 96=some true:=by kernel_rfl
@[simp] def E4c:A1e prog 96=some 4:=by kernel_rfl
@[simp] def E1s:A1D prog 96 0=some 0:=by kernel_rfl
@[simp] def E0W:A1g prog 96 0=some (0,28):=by kernel_rfl
@[simp] def E0u:A1D prog 96 1=some 1:=by kernel_rfl
@[simp] def E0w:A1g prog 96 1=some (1,92):=by kernel_rfl
@[simp] def E1u:A1D prog 96 2=some 2:=by kernel_rfl
@[simp] def E1B:A1g prog 96 2=some (2,93):=by kernel_rfl
@[simp] def E0q:A1D prog 96 3=some 3:=by kernel_rfl
@[simp] def E1a:A1g prog 96 3=some (3,94):=by kernel_rfl
@[simp] def E3h:A3S prog 96=true:=by kernel_rfl
@[simp] def E2I:A0D prog 96=some [.slice none 0 0,.map none,.map none,.map none]:=by kernel_rfl
@[simp] def E1U:A2v prog 110=some true:=by kernel_rfl
@[simp] def E3g:A1e prog 110=some 5:=by kernel_rfl
@[simp] def D8s:A1D prog 110 0=some 0:=by kernel_rfl
@[simp] def D8G:A1g prog 110 0=some (0,3):=by kernel_rfl
@[simp] def E0b:A1D prog 110 1=some 1:=by kernel_rfl
@[simp] def D9T:A1g prog 110 1=some (1,40):=by kernel_rfl
@[simp] def D9R:A1D prog 110 2=some 2:=by kernel_rfl
@[simp] def D8H:A1D prog 110 3=some 3:=by kernel_rfl
@[simp] def D9j:A1D prog 110 4=some 4:=by kernel_rfl
@[simp] def E2i:A3S prog 110=true:=by kernel_rfl
@[simp] def E0L:A0D prog 110=some [.int .i64 0,.slice none 0 0,.string ⟨#[]⟩,.int .i64 0,.int .i64 0]:=by kernel_rfl
def B1U:A3O prog 110 5 64:=⟨_,_,type110,rfl,rfl,rfl,rfl,by decide⟩
@[simp] def E2H:A2v prog 113=some false:=by kernel_rfl
@[simp] def E3j:A1e prog 113=some 1:=by kernel_rfl
@[simp] def E2m:A2v prog 114=some false:=by kernel_rfl
@[simp] def E3F:A1e prog 114=some 1:=by kernel_rfl
@[simp] def D4U:A0S prog 114=some 5:=by kernel_rfl
@[simp] def E3m:A1e prog 116=some 2:=by kernel_rfl
@[simp] def D8P:A1D prog 116 0=some 0:=by kernel_rfl
@[simp] def D9L:A1D prog 116 1=some 1:=by kernel_rfl
@[simp] def E0l:A0D prog 116=some [.pointer none,.slice none 0 0]:=by kernel_rfl
@[simp] def E2G:A2v prog 130=some false:=by kernel_rfl
@[simp] def E3o:A1e prog 130=some 1:=by kernel_rfl
@[simp] def C8B:A0S prog 130=some 3:=by kernel_rfl
def D0D:A4v prog 130:=.inl ⟨3,by kernel_rfl⟩
@[simp] def B4B:A0D prog 130=some [.slice none 0 0]:=by kernel_rfl
@[simp] def E1R:A2v prog 150=some true:=by kernel_rfl
@[simp] def E3k:A1e prog 150=some 3:=by kernel_rfl
@[simp] def E2s:A3S prog 150=true:=by kernel_rfl
@[simp] def E0X:A0D prog 150=some [.int .i64 0,.int .i64 0,.int .i64 0]:=by kernel_rfl
@[simp] def E1J:A2v prog 152=some true:=by kernel_rfl
@[simp] def E2Z:A1e prog 152=some 4:=by kernel_rfl
@[simp] def D8y:A1D prog 152 0=some 0:=by kernel_rfl
@[simp] def D8A:A1g prog 152 0=some (0,9):=by kernel_rfl
@[simp] def D8q:A1D prog 152 1=some 1:=by kernel_rfl
@[simp] def E2A:A3S prog 152=true:=by kernel_rfl
@[simp] def E0n:A0D prog 152=some [.string ⟨#[]⟩,.int .i64 0,.int .i64 0,.int .i64 0]:=by kernel_rfl
def B7c:A3O prog 152 4 40:=⟨_,_,type152,rfl,rfl,rfl,rfl,by decide⟩
@[simp] def E2F:A2v prog 159=some true:=by kernel_rfl
@[simp] def E3E:A1e prog 159=some 2:=by kernel_rfl
@[simp] def D9V:A1D prog 159 0=some 0:=by kernel_rfl
@[simp] def D9h:A1g prog 159 0=some (0,3):=by kernel_rfl
@[simp] def D9g:A1D prog 159 1=some 1:=by kernel_rfl
@[simp] def D8p:A1g prog 159 1=some (1,9):=by kernel_rfl
@[simp] def E2E:A3S prog 159=true:=by kernel_rfl
@[simp] def E1h:A0D prog 159=some [.int .i64 0,.string ⟨#[]⟩]:=by kernel_rfl
def A7J:A3O prog 159 2 24:=⟨_,_,type159,rfl,rfl,rfl,rfl,by decide⟩
@[simp] def E1X:A2v prog 247=some true:=by kernel_rfl
@[simp] def E3n:A1e prog 247=some 2:=by kernel_rfl
@[simp] def D8S:A1g prog 247 0=some (0,3):=by kernel_rfl
@[simp] def D9c:A1g prog 247 1=some (1,9):=by kernel_rfl
@[simp] def E1Z:A3S prog 247=true:=by kernel_rfl
@[simp] def E1c:A0D prog 247=some [.int .i64 0,.string ⟨#[]⟩]:=by kernel_rfl
end TryTypes
end Go.Abs
