/- A part of the proof. -/
import Derived.Test.YtmpdkagfplajjaaGreatDoorGG17
import Derived.Test.YtmpdkagfplajjaaGreatDoorProg
set_option linter.all false
set_option maxRecDepth 100000
namespace Go.Abs
open Go.Proofs Tryz
namespace TryTypes
@[simp] def E4z:A2k prog 3=some false:=by kernel_rfl
@[simp] def sz3:A1t prog 3=some 1:=by kernel_rfl
@[simp] def D6K:A0F prog 3=some [.int .i64 0]:=by kernel_rfl
def E3B:A3y prog 3 1 8:=⟨_,_,type3,rfl,rfl,rfl,rfl,by decide⟩
@[simp] def E9P:A2k prog 4=some false:=by kernel_rfl
@[simp] def sz4:A1t prog 4=some 1:=by kernel_rfl
@[simp] def E9J:A2k prog 5=some false:=by kernel_rfl
@[simp] def sz5:A1t prog 5=some 1:=by kernel_rfl
def E7o:A3y prog 5 1 1:=⟨_,_,type5,rfl,rfl,rfl,rfl,by decide⟩
@[simp] def E4C:A2k prog 9=some false:=by kernel_rfl
@[simp] def sz9:A1t prog 9=some 1:=by kernel_rfl
@[simp] def E9c:A0F prog 9=some [.string ⟨#[]⟩]:=by kernel_rfl
def B9w:A3y prog 9 1 16:=⟨_,_,type9,rfl,rfl,rfl,rfl,by decide⟩
@[simp] def E8J:A2k prog 23=some true:=by kernel_rfl
@[simp] def E9O:A1t prog 23=some 3:=by kernel_rfl
@[simp] def E5Q:A1y prog 23 0=some 0:=by kernel_rfl
@[simp] def E6v:A0P prog 23 0=some (0,3):=by kernel_rfl
@[simp] def E6q:A0P prog 23 1=some (1,3):=by kernel_rfl
@[simp] def E5S:A0P prog 23 2=some (2,3):=by kernel_rfl
@[simp] def E8P:A2K prog 23=true:=by kernel_rfl
@[simp] def E8u:A0F prog 23=some [.int .i64 0,.int .i64 0,.int .i64 0]:=by kernel_rfl
def D1k:A3y prog 23 3 24:=⟨_,_,type23,rfl,rfl,rfl,rfl,by decide⟩
@[simp] def E8W:A2k prog 24=some false:=by kernel_rfl
@[simp] def E9H:A1t prog 24=some 1:=by kernel_rfl
@[simp] def B3v:A1h prog 24=some 152:=by kernel_rfl
def C0S:A4f prog 24:=.inl ⟨152,by kernel_rfl⟩
@[simp] def E7B:A0F prog 24=some [.slice none 0 0]:=by kernel_rfl
@[simp] def E8M:A2k prog 25=some false:=by kernel_rfl
@[simp] def E9R:A1t prog 25=some 1:=by kernel_rfl
@[simp] def A7P:A1h prog 25=some 27:=by kernel_rfl
def B2g:A4f prog 25:=.inl ⟨27,by kernel_rfl⟩
@[simp] def E7U:A0F prog 25=some [.slice none 0 0]:=by kernel_rfl
@[simp] def D9l:A2k prog 27=some true:=by kernel_rfl
@[simp] def E0d:A1t prog 27=some 8:=by kernel_rfl
@[simp] def E6B:A1y prog 27 0=some 0:=by kernel_rfl
@[simp] def E5J:A0P prog 27 0=some (0,23):=by kernel_rfl
@[simp] def E6V:A1y prog 27 1=some 3:=by kernel_rfl
@[simp] def E6b:A0P prog 27 1=some (3,3):=by kernel_rfl
@[simp] def E6H:A1y prog 27 2=some 4:=by kernel_rfl
@[simp] def E5T:A0P prog 27 2=some (4,9):=by kernel_rfl
@[simp] def E5X:A1y prog 27 3=some 5:=by kernel_rfl
@[simp] def E6l:A0P prog 27 3=some (5,24):=by kernel_rfl
@[simp] def E6t:A1y prog 27 4=some 6:=by kernel_rfl
@[simp] def E5A:A0P prog 27 4=some (6,24):=by kernel_rfl
@[simp] def E6i:A1y prog 27 5=some 7:=by kernel_rfl
@[simp] def E5W:A0P prog 27 5=some (7,25):=by kernel_rfl
@[simp] def E8V:A2K prog 27=true:=by kernel_rfl
@[simp] def C4h:A0F prog 27=some [.int .i64 0,.int .i64 0,.int .i64 0,.int .i64 0,.string ⟨#[]⟩,.slice none 0 0,.slice none 0 0,.slice none 0 0]:=by kernel_rfl
def B1T:A3y prog 27 8 120:=⟨_,_,type27,rfl,rfl,rfl,rfl,by decide⟩
@[simp] def E9o:A2k prog 28=some false:=by kernel_rfl
@[simp] def E9T:A1t prog 28=some 1:=by kernel_rfl
@[simp] def E0b:A1h prog 28=some 69:=by kernel_rfl
def E4n:A4f prog 28:=.inl ⟨69,by kernel_rfl⟩
@[simp] def E8F:A0F prog 28=some [.slice none 0 0]:=by kernel_rfl
@[simp] def E9y:A2k prog 37=some false:=by kernel_rfl
@[simp] def E9L:A1t prog 37=some 1:=by kernel_rfl
@[simp] def A8Q:A1h prog 37=some 9:=by kernel_rfl
def B1E:A4f prog 37:=.inl ⟨9,by kernel_rfl⟩
@[simp] def E8g:A0F prog 37=some [.slice none 0 0]:=by kernel_rfl
@[simp] def C3I:A1h prog 38=some 110:=by kernel_rfl
def D0N:A4f prog 38:=.inl ⟨110,by kernel_rfl⟩
@[simp] def D5Y:A1h prog 39=some 40:=by kernel_rfl
def D9D:A4f prog 39:=.inl ⟨40,by kernel_rfl⟩
@[simp] def E8Y:A2k prog 40=some false:=by kernel_rfl
@[simp] def E9W:A1t prog 40=some 1:=by kernel_rfl
@[simp] def B1U:A1h prog 40=some 159:=by kernel_rfl
def B6w:A4f prog 40:=.inl ⟨159,by kernel_rfl⟩
@[simp] def E7X:A0F prog 40=some [.slice none 0 0]:=by kernel_rfl
def D9B:A3y prog 40 1 24:=⟨_,_,type40,rfl,rfl,rfl,rfl,by decide⟩
@[simp] def E8O:A2k prog 69=some true:=by kernel_rfl
@[simp] def E9X:A1t prog 69=some 5:=by kernel_rfl
@[simp] def E6a:A1y prog 69 0=some 0:=by kernel_rfl
@[simp] def E6c:A0P prog 69 0=some (0,23):=by kernel_rfl
@[simp] def E6E:A1y prog 69 1=some 3:=by kernel_rfl
@[simp] def E5N:A0P prog 69 1=some (3,3):=by kernel_rfl
@[simp] def E6Y:A1y prog 69 2=some 4:=by kernel_rfl
@[simp] def E5M:A0P prog 69 2=some (4,9):=by kernel_rfl
@[simp] def E8T:A2K prog 69=true:=by kernel_rfl
@[simp] def E7M:A0F prog 69=some [.int .i64 0,.int .i64 0,.int .i64 0,.int .i64 0,.string ⟨#[]⟩]:=by kernel_rfl
def E2W:A3y prog 69 5 48:=⟨_,_,type69,rfl,rfl,rfl,rfl,by decide⟩
@[simp] def E9v:A2k prog 85=some false:=by kernel_rfl
@[simp] def E9F:A1t prog 85=some 1:=by kernel_rfl
@[simp] def C4W:A1h prog 85=some 23:=by kernel_rfl
def D0x:A4f prog 85:=.inl ⟨23,by kernel_rfl⟩
@[simp] def E7h:A0F prog 85=some [.slice none 0 0]:=by kernel_rfl
@[simp] def E8L:A2k prog 92=some false:=by kernel_rfl
@[simp] def E9G:A1t prog 92=some 1:=by kernel_rfl
@[simp] def E8I:A2k prog 93=some false:=by kernel_rfl
@[simp] def E9M:A1t prog 93=some 1:=by kernel_rfl
@[simp] def E9z:A2k prog 94=some false:=by kernel_rfl
@[simp] def E9N:A1t prog 94=some 1:=by kernel_rfl
@[simp] def E8X:A2k prog 96=some true:=by kernel_rfl
@[simp] def E9U:A1t prog 96=some 4:=by kernel_rfl
@[simp] def E5q:A1y prog 96 0=some 0:=by kernel_rfl
@[simp] def E6W:A0P prog 96 0=some (0,28):=by kernel_rfl
@[simp] def E5K:A1y prog 96 1=some 1:=by kernel_rfl
@[simp] def E6u:A0P prog 96 1=some (1,92):=by kernel_rfl
@[simp] def E5l:A1y prog 96 2=some 2:=by kernel_rfl
@[simp] def E5O:A0P prog 96 2=some (2,93):=by kernel_rfl
@[simp] def E6x:A1y prog 96 3=some 3:=by kernel_rfl
@[simp] def E5F:A0P prog 96 3=some (3,94):=by kernel_rfl
@[simp] def E9a:A2K prog 96=true:=by kernel_rfl
@[simp] def E8G:A0F prog 96=some [.slice none 0 0,.map none,.map none,.map none]:=by kernel_rfl
@[simp] def E7S:A2k prog 110=some true:=by kernel_rfl
@[simp] def E9x:A1t prog 110=some 5:=by kernel_rfl
@[simp] def E3T:A1y prog 110 0=some 0:=by kernel_rfl
@[simp] def E4L:A0P prog 110 0=some (0,3):=by kernel_rfl
@[simp] def E4r:A1y prog 110 1=some 1:=by kernel_rfl
@[simp] def E4l:A0P prog 110 1=some (1,40):=by kernel_rfl
@[simp] def E3l:A1y prog 110 2=some 2:=by kernel_rfl
@[simp] def E4Q:A1y prog 110 3=some 3:=by kernel_rfl
@[simp] def E4t:A1y prog 110 4=some 4:=by kernel_rfl
@[simp] def E8k:A2K prog 110=true:=by kernel_rfl
@[simp] def E6D:A0F prog 110=some [.int .i64 0,.slice none 0 0,.string ⟨#[]⟩,.int .i64 0,.int .i64 0]:=by kernel_rfl
def C4m:A3y prog 110 5 64:=⟨_,_,type110,rfl,rfl,rfl,rfl,by decide⟩
@[simp] def E7v:A2k prog 113=some false:=by kernel_rfl
@[simp] def E9A:A1t prog 113=some 1:=by kernel_rfl
@[simp] def E7d:A2k prog 114=some false:=by kernel_rfl
@[simp] def E8N:A1t prog 114=some 1:=by kernel_rfl
@[simp] def D7B:A1h prog 114=some 5:=by kernel_rfl
@[simp] def E8Q:A1t prog 116=some 2:=by kernel_rfl
@[simp] def E4V:A1y prog 116 0=some 0:=by kernel_rfl
@[simp] def E3X:A1y prog 116 1=some 1:=by kernel_rfl
@[simp] def E6L:A0F prog 116=some [.pointer none,.slice none 0 0]:=by kernel_rfl
@[simp] def E8n:A2k prog 130=some false:=by kernel_rfl
@[simp] def E8K:A1t prog 130=some 1:=by kernel_rfl
@[simp] def D0R:A1h prog 130=some 3:=by kernel_rfl
def D4O:A4f prog 130:=.inl ⟨3,by kernel_rfl⟩
@[simp] def B5r:A0F prog 130=some [.slice none 0 0]:=by kernel_rfl
@[simp] def E7P:A2k prog 150=some true:=by kernel_rfl
@[simp] def E8U:A1t prog 150=some 3:=by kernel_rfl
@[simp] def E4g:A0P prog 150 0=some (0,3):=by kernel_rfl
@[simp] def E3g:A0P prog 150 1=some (1,3):=by kernel_rfl
@[simp] def E3D:A0P prog 150 2=some (2,3):=by kernel_rfl
@[simp] def E8p:A2K prog 150=true:=by kernel_rfl
@[simp] def E5t:A0F prog 150=some [.int .i64 0,.int .i64 0,.int .i64 0]:=by kernel_rfl
@[simp] def E7F:A2k prog 152=some true:=by kernel_rfl
@[simp] def E9t:A1t prog 152=some 4:=by kernel_rfl
@[simp] def E4X:A1y prog 152 0=some 0:=by kernel_rfl
@[simp] def E3z:A0P prog 152 0=some (0,9):=by kernel_rfl
@[simp] def E2T:A1y prog 152 1=some 1:=by kernel_rfl
@[simp] def E2P:A0P prog 152 1=some (1,150):=by kernel_rfl
@[simp] def E7Z:A2K prog 152=true:=by kernel_rfl
@[simp] def E6w:A0F prog 152=some [.string ⟨#[]⟩,.int .i64 0,.int .i64 0,.int .i64 0]:=by kernel_rfl
def B4k:A3y prog 152 4 40:=⟨_,_,type152,rfl,rfl,rfl,rfl,by decide⟩
@[simp] def E8a:A2k prog 159=some true:=by kernel_rfl
@[simp] def E9i:A1t prog 159=some 2:=by kernel_rfl
@[simp] def E2R:A1y prog 159 0=some 0:=by kernel_rfl
@[simp] def E3Y:A0P prog 159 0=some (0,3):=by kernel_rfl
@[simp] def E3q:A1y prog 159 1=some 1:=by kernel_rfl
@[simp] def E3E:A0P prog 159 1=some (1,9):=by kernel_rfl
@[simp] def E7l:A2K prog 159=true:=by kernel_rfl
@[simp] def E5s:A0F prog 159=some [.int .i64 0,.string ⟨#[]⟩]:=by kernel_rfl
def B2c:A3y prog 159 2 24:=⟨_,_,type159,rfl,rfl,rfl,rfl,by decide⟩
@[simp] def E7g:A2k prog 247=some true:=by kernel_rfl
@[simp] def E9B:A1t prog 247=some 2:=by kernel_rfl
@[simp] def E4q:A0P prog 247 0=some (0,3):=by kernel_rfl
@[simp] def E3R:A0P prog 247 1=some (1,9):=by kernel_rfl
@[simp] def E7C:A2K prog 247=true:=by kernel_rfl
@[simp] def E6C:A0F prog 247=some [.int .i64 0,.string ⟨#[]⟩]:=by kernel_rfl
end TryTypes
end Go.Abs
