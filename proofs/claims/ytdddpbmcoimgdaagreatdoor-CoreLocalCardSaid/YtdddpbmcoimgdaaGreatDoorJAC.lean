/- A part of SX: symbolic and concrete runs of the program, with contracts of functions; lemmas without further conditions. Shortened by a tool (mini.py). -/
import Derived.Test.YtdddpbmcoimgdaaGreatDoorChecked
import Derived.ChangeSame
import Derived.ChangeReads
import Derived.ProofKit
import Derived.Deep.Fields
import Derived.IntWalk
import Derived.Shelf.LaysM
import Derived.Lib.ItoaNum
import Derived.OpenShut
import Derived.SizedLaws
import Derived.Lib.LaidTab
import Derived.Handed
import Derived.Shelf.Lays
import Derived.Shelf.Pu.Lays
import Derived.Sort.Grow
import Derived.Deep.Draws
import Derived.Below
import Derived.Test.YtdddpbmcoimgdaaGreatDoorRows
import Derived.Shelf.Vars
import Derived.Lib.Index
import Derived.Lib.IndexMore
import Derived.Lib.IndexBytes
import Derived.Test.YtdddpbmcoimgdaaGreatDoorJAA
import Derived.Test.YtdddpbmcoimgdaaGreatDoorJAB
set_option linter.unusedVariables false
set_option linter.unusedSimpArgs false
set_option linter.unusedSectionVars false
set_option maxRecDepth 100000
namespace Go.Proofs.YtdddpbmcoimgdaaGreatDoor
namespace SX
open Go Go.Proofs
def tiF1:TI:=⟨.func,1,8,[.raw .nilFunc],none,true⟩
def tiF2:TI:=⟨.int .i64,1,8,[.i .i64 0],none,true⟩
def tiF4:TI:=⟨.bool,1,1,[.b false],none,true⟩
def tiF5:TI:=⟨.int .u8,1,1,[.i .u8 0],none,true⟩
def tiF7:TI:=⟨.struct [(0,2),(1,3),(2,4),(3,6)],4,24,[.i .i64 0,.i .i64 0,.b false,.i .u8 0],none,true⟩
def tiF9:TI:=⟨.str,1,16,[.s []],none,true⟩
def Zd3:TI:=⟨.int .u64,1,8,[.i .u64 0],none,true⟩
def tiF13:TI:=⟨.struct [(0,9),(1,12)],2,24,[.s [],.i .u64 0],none,true⟩
def tiF15:TI:=⟨.ptr 280,1,8,[.raw (.pointer none)],none,true⟩
def tiF16:TI:=⟨.ptr 283,1,8,[.raw (.pointer none)],none,true⟩
def tiF17:TI:=⟨.ptr 290,1,8,[.raw (.pointer none)],none,true⟩
def tiF18:TI:=⟨.struct [(0,17)],1,8,[.raw (.pointer none)],none,true⟩
def tiF20:TI:=⟨.iface false,1,16,[.raw .nilIface],none,true⟩
def Zd4:TI:=⟨.int .i32,1,4,[.i .i32 0],none,true⟩
def tiF22:TI:=⟨.array 3 3,3,24,[.i .i64 0,.i .i64 0,.i .i64 0],some [.i .i64,.i .i64,.i .i64],true⟩
def tiF23:TI:=⟨.array 8 3,8,64,[.i .i64 0,.i .i64 0,.i .i64 0,.i .i64 0,.i .i64 0,.i .i64 0,.i .i64 0,.i .i64 0],some [.i .i64,.i .i64,.i .i64,.i .i64,.i .i64,.i .i64,.i .i64,.i .i64],true⟩
def tiF24:TI:=⟨.array 3 23,24,192,[.i .i64 0,.i .i64 0,.i .i64 0,.i .i64 0,.i .i64 0,.i .i64 0,.i .i64 0,.i .i64 0,.i .i64 0,.i .i64 0,.i .i64 0,.i .i64 0,.i .i64 0,.i .i64 0,.i .i64 0,.i .i64 0,.i .i64 0,.i .i64 0,.i .i64 0,.i .i64 0,.i .i64 0,.i .i64 0,.i .i64 0,.i .i64 0],some [.i .i64,.i .i64,.i .i64,.i .i64,.i .i64,.i .i64,.i .i64,.i .i64,.i .i64,.i .i64,.i .i64,.i .i64,.i .i64,.i .i64,.i .i64,.i .i64,.i .i64,.i .i64,.i .i64,.i .i64,.i .i64,.i .i64,.i .i64,.i .i64],true⟩
def tiF25:TI:=⟨.slice 38,1,24,[.nils],none,true⟩
def tiF26:TI:=⟨.slice 79,1,24,[.nils],none,true⟩
def tiF27:TI:=⟨.struct [(0,3),(1,9),(2,22),(5,24),(29,25),(30,3),(31,26)],32,296,[.i .i64 0,.s [],.i .i64 0,.i .i64 0,.i .i64 0,.i .i64 0,.i .i64 0,.i .i64 0,.i .i64 0,.i .i64 0,.i .i64 0,.i .i64 0,.i .i64 0,.i .i64 0,.i .i64 0,.i .i64 0,.i .i64 0,.i .i64 0,.i .i64 0,.i .i64 0,.i .i64 0,.i .i64 0,.i .i64 0,.i .i64 0,.i .i64 0,.i .i64 0,.i .i64 0,.i .i64 0,.i .i64 0,.nils,.i .i64 0,.nils],none,true⟩
def tiF29:TI:=⟨.slice 44,1,24,[.nils],none,true⟩
def tiF33:TI:=⟨.ptr 106,1,8,[.raw (.pointer none)],none,true⟩
def tiF36:TI:=⟨.slice 37,1,24,[.nils],none,true⟩
def tiF37:TI:=⟨.ptr 41,1,8,[.raw (.pointer none)],none,true⟩
def tiF38:TI:=⟨.slice 56,1,24,[.nils],none,true⟩
def tiF39:TI:=⟨.slice 3,1,24,[.nils],none,true⟩
def tiF40:TI:=⟨.struct [(0,38),(1,23),(9,3),(10,39)],11,120,[.nils,.i .i64 0,.i .i64 0,.i .i64 0,.i .i64 0,.i .i64 0,.i .i64 0,.i .i64 0,.i .i64 0,.i .i64 0,.nils],none,true⟩
def Z6N:TI:=⟨.struct [(0,3),(1,3)],2,16,[.i .i64 0,.i .i64 0],some [.i .i64,.i .i64],true⟩
def tiF48:TI:=⟨.struct [(0,3),(1,3),(2,3),(3,3),(4,47),(6,4),(7,4),(8,3),(9,3),(10,4),(11,4),(12,4),(13,3),(14,3)],15,96,[.i .i64 0,.i .i64 0,.i .i64 0,.i .i64 0,.i .i64 0,.i .i64 0,.b false,.b false,.i .i64 0,.i .i64 0,.b false,.b false,.b false,.i .i64 0,.i .i64 0],some [.i .i64,.i .i64,.i .i64,.i .i64,.i .i64,.i .i64,.b,.b,.i .i64,.i .i64,.b,.b,.b,.i .i64,.i .i64],true⟩
def tiF52:TI:=⟨.slice 49,1,24,[.nils],none,true⟩
def tiF55:TI:=⟨.struct [(0,3),(1,3),(2,3),(3,3),(4,3),(5,3),(6,3),(7,3),(8,3),(9,3),(10,4),(11,4),(12,4),(13,3),(14,3),(15,3),(16,4)],17,120,[.i .i64 0,.i .i64 0,.i .i64 0,.i .i64 0,.i .i64 0,.i .i64 0,.i .i64 0,.i .i64 0,.i .i64 0,.i .i64 0,.b false,.b false,.b false,.i .i64 0,.i .i64 0,.i .i64 0,.b false],some [.i .i64,.i .i64,.i .i64,.i .i64,.i .i64,.i .i64,.i .i64,.i .i64,.i .i64,.i .i64,.b,.b,.b,.i .i64,.i .i64,.i .i64,.b],true⟩
def tiF66:TI:=⟨.ptr 121,1,8,[.raw (.pointer none)],none,true⟩
def tiF68:TI:=⟨.ptr 125,1,8,[.raw (.pointer none)],none,true⟩
def tiF71:TI:=⟨.slice 76,1,24,[.nils],none,true⟩
def tiF75:TI:=⟨.struct [(0,3),(1,3),(2,3),(3,3)],4,32,[.i .i64 0,.i .i64 0,.i .i64 0,.i .i64 0],some [.i .i64,.i .i64,.i .i64,.i .i64],true⟩
def tiF78:TI:=⟨.struct [(0,3),(1,3),(2,3),(3,3),(4,3)],5,40,[.i .i64 0,.i .i64 0,.i .i64 0,.i .i64 0,.i .i64 0],some [.i .i64,.i .i64,.i .i64,.i .i64,.i .i64],true⟩
def tiF80:TI:=⟨.ptr 84,1,8,[.raw (.pointer none)],none,true⟩
def tiF82:TI:=⟨.slice 139,1,24,[.nils],none,true⟩
def tiF83:TI:=⟨.struct [(0,33),(1,22),(4,82)],5,56,[.raw (.pointer none),.i .i64 0,.i .i64 0,.i .i64 0,.nils],none,true⟩
def tiF98:TI:=⟨.struct [(0,9),(1,94),(2,95),(3,96),(4,97)],5,48,[.s [],.raw .nilFunc,.raw .nilFunc,.raw .nilFunc,.raw .nilFunc],none,true⟩
def tiF100:TI:=⟨.slice 99,1,24,[.nils],none,true⟩
def tiF103:TI:=⟨.slice 23,1,24,[.nils],none,true⟩
def tiF104:TI:=⟨.slice 109,1,24,[.nils],none,true⟩
def Ze8:TI:=⟨.struct [(0,104)],1,24,[.nils],none,true⟩
def Ze9:TI:=⟨.struct [(0,38),(1,3),(2,23)],10,96,[.nils,.i .i64 0,.i .i64 0,.i .i64 0,.i .i64 0,.i .i64 0,.i .i64 0,.i .i64 0,.i .i64 0,.i .i64 0],none,true⟩
def tiF113:TI:=⟨.ptr 109,1,8,[.raw (.pointer none)],none,true⟩
def tiF117:TI:=⟨.slice 5,1,24,[.nils],none,true⟩
def Zea:TI:=⟨.struct [(0,33),(1,22)],4,32,[.raw (.pointer none),.i .i64 0,.i .i64 0,.i .i64 0],none,true⟩
def tiF122:TI:=⟨.slice 135,1,24,[.nils],none,true⟩
def tiF123:TI:=⟨.array 3 122,3,72,[.nils,.nils,.nils],none,true⟩
def Zeb:TI:=⟨.struct [(0,28),(32,36),(33,22),(36,123),(39,4)],40,424,[.i .i64 0,.s [],.i .i64 0,.i .i64 0,.i .i64 0,.i .i64 0,.i .i64 0,.i .i64 0,.i .i64 0,.i .i64 0,.i .i64 0,.i .i64 0,.i .i64 0,.i .i64 0,.i .i64 0,.i .i64 0,.i .i64 0,.i .i64 0,.i .i64 0,.i .i64 0,.i .i64 0,.i .i64 0,.i .i64 0,.i .i64 0,.i .i64 0,.i .i64 0,.i .i64 0,.i .i64 0,.i .i64 0,.nils,.i .i64 0,.nils,.nils,.i .i64 0,.i .i64 0,.i .i64 0,.nils,.nils,.nils,.b false],none,true⟩
def Zec:TI:=⟨.struct [(0,24),(24,22)],27,216,[.i .i64 0,.i .i64 0,.i .i64 0,.i .i64 0,.i .i64 0,.i .i64 0,.i .i64 0,.i .i64 0,.i .i64 0,.i .i64 0,.i .i64 0,.i .i64 0,.i .i64 0,.i .i64 0,.i .i64 0,.i .i64 0,.i .i64 0,.i .i64 0,.i .i64 0,.i .i64 0,.i .i64 0,.i .i64 0,.i .i64 0,.i .i64 0,.i .i64 0,.i .i64 0,.i .i64 0],some [.i .i64,.i .i64,.i .i64,.i .i64,.i .i64,.i .i64,.i .i64,.i .i64,.i .i64,.i .i64,.i .i64,.i .i64,.i .i64,.i .i64,.i .i64,.i .i64,.i .i64,.i .i64,.i .i64,.i .i64,.i .i64,.i .i64,.i .i64,.i .i64,.i .i64,.i .i64,.i .i64],true⟩
def tiF130:TI:=⟨.ptr 3,1,8,[.raw (.pointer none)],none,true⟩
def Z8m:TI:=⟨.struct [(0,47),(2,3)],3,24,[.i .i64 0,.i .i64 0,.i .i64 0],some [.i .i64,.i .i64,.i .i64],true⟩
def tiF139:TI:=⟨.slice 138,1,24,[.nils],none,true⟩
def tiF142:TI:=⟨.slice 146,1,24,[.nils],none,true⟩
def Zed:TI:=⟨.struct [(0,3),(1,9),(2,3),(3,3)],4,40,[.i .i64 0,.s [],.i .i64 0,.i .i64 0],some [.i .i64,.s,.i .i64,.i .i64],true⟩
def tiF163:TI:=⟨.ptr 178,1,8,[.raw (.pointer none)],none,true⟩
def Zee:TI:=⟨.iface true,1,16,[.raw .nilIface],none,true⟩
def tiF173:TI:=⟨.slice 9,1,24,[.nils],none,true⟩
def Zef:TI:=⟨.struct [(0,173),(1,9),(2,175),(3,176)],4,56,[.nils,.s [],.raw .nilFunc,.raw .nilFunc],none,true⟩
def tiF179:TI:=⟨.ptr 183,1,8,[.raw (.pointer none)],none,true⟩
def tiF181:TI:=⟨.ptr 210,1,8,[.raw (.pointer none)],none,true⟩
def Zeg:TI:=⟨.struct [(0,181),(1,163),(2,9),(3,31),(4,3)],5,48,[.raw (.pointer none),.raw (.pointer none),.s [],.i .i64 0,.i .i64 0],none,true⟩
def tiF192:TI:=⟨.array 256 5,256,256,[.i .u8 0,.i .u8 0,.i .u8 0,.i .u8 0,.i .u8 0,.i .u8 0,.i .u8 0,.i .u8 0,.i .u8 0,.i .u8 0,.i .u8 0,.i .u8 0,.i .u8 0,.i .u8 0,.i .u8 0,.i .u8 0,.i .u8 0,.i .u8 0,.i .u8 0,.i .u8 0,.i .u8 0,.i .u8 0,.i .u8 0,.i .u8 0,.i .u8 0,.i .u8 0,.i .u8 0,.i .u8 0,.i .u8 0,.i .u8 0,.i .u8 0,.i .u8 0,.i .u8 0,.i .u8 0,.i .u8 0,.i .u8 0,.i .u8 0,.i .u8 0,.i .u8 0,.i .u8 0,.i .u8 0,.i .u8 0,.i .u8 0,.i .u8 0,.i .u8 0,.i .u8 0,.i .u8 0,.i .u8 0,.i .u8 0,.i .u8 0,.i .u8 0,.i .u8 0,.i .u8 0,.i .u8 0,.i .u8 0,.i .u8 0,.i .u8 0,.i .u8 0,.i .u8 0,.i .u8 0,.i .u8 0,.i .u8 0,.i .u8 0,.i .u8 0,.i .u8 0,.i .u8 0,.i .u8 0,.i .u8 0,.i .u8 0,.i .u8 0,.i .u8 0,.i .u8 0,.i .u8 0,.i .u8 0,.i .u8 0,.i .u8 0,.i .u8 0,.i .u8 0,.i .u8 0,.i .u8 0,.i .u8 0,.i .u8 0,.i .u8 0,.i .u8 0,.i .u8 0,.i .u8 0,.i .u8 0,.i .u8 0,.i .u8 0,.i .u8 0,.i .u8 0,.i .u8 0,.i .u8 0,.i .u8 0,.i .u8 0,.i .u8 0,.i .u8 0,.i .u8 0,.i .u8 0,.i .u8 0,.i .u8 0,.i .u8 0,.i .u8 0,.i .u8 0,.i .u8 0,.i .u8 0,.i .u8 0,.i .u8 0,.i .u8 0,.i .u8 0,.i .u8 0,.i .u8 0,.i .u8 0,.i .u8 0,.i .u8 0,.i .u8 0,.i .u8 0,.i .u8 0,.i .u8 0,.i .u8 0,.i .u8 0,.i .u8 0,.i .u8 0,.i .u8 0,.i .u8 0,.i .u8 0,.i .u8 0,.i .u8 0,.i .u8 0,.i .u8 0,.i .u8 0,.i .u8 0,.i .u8 0,.i .u8 0,.i .u8 0,.i .u8 0,.i .u8 0,.i .u8 0,.i .u8 0,.i .u8 0,.i .u8 0,.i .u8 0,.i .u8 0,.i .u8 0,.i .u8 0,.i .u8 0,.i .u8 0,.i .u8 0,.i .u8 0,.i .u8 0,.i .u8 0,.i .u8 0,.i .u8 0,.i .u8 0,.i .u8 0,.i .u8 0,.i .u8 0,.i .u8 0,.i .u8 0,.i .u8 0,.i .u8 0,.i .u8 0,.i .u8 0,.i .u8 0,.i .u8 0,.i .u8 0,.i .u8 0,.i .u8 0,.i .u8 0,.i .u8 0,.i .u8 0,.i .u8 0,.i .u8 0,.i .u8 0,.i .u8 0,.i .u8 0,.i .u8 0,.i .u8 0,.i .u8 0,.i .u8 0,.i .u8 0,.i .u8 0,.i .u8 0,.i .u8 0,.i .u8 0,.i .u8 0,.i .u8 0,.i .u8 0,.i .u8 0,.i .u8 0,.i .u8 0,.i .u8 0,.i .u8 0,.i .u8 0,.i .u8 0,.i .u8 0,.i .u8 0,.i .u8 0,.i .u8 0,.i .u8 0,.i .u8 0,.i .u8 0,.i .u8 0,.i .u8 0,.i .u8 0,.i .u8 0,.i .u8 0,.i .u8 0,.i .u8 0,.i .u8 0,.i .u8 0,.i .u8 0,.i .u8 0,.i .u8 0,.i .u8 0,.i .u8 0,.i .u8 0,.i .u8 0,.i .u8 0,.i .u8 0,.i .u8 0,.i .u8 0,.i .u8 0,.i .u8 0,.i .u8 0,.i .u8 0,.i .u8 0,.i .u8 0,.i .u8 0,.i .u8 0,.i .u8 0,.i .u8 0,.i .u8 0,.i .u8 0,.i .u8 0,.i .u8 0,.i .u8 0,.i .u8 0,.i .u8 0,.i .u8 0,.i .u8 0,.i .u8 0,.i .u8 0,.i .u8 0,.i .u8 0,.i .u8 0,.i .u8 0,.i .u8 0,.i .u8 0,.i .u8 0,.i .u8 0,.i .u8 0,.i .u8 0,.i .u8 0,.i .u8 0,.i .u8 0],some [.i .u8,.i .u8,.i .u8,.i .u8,.i .u8,.i .u8,.i .u8,.i .u8,.i .u8,.i .u8,.i .u8,.i .u8,.i .u8,.i .u8,.i .u8,.i .u8,.i .u8,.i .u8,.i .u8,.i .u8,.i .u8,.i .u8,.i .u8,.i .u8,.i .u8,.i .u8,.i .u8,.i .u8,.i .u8,.i .u8,.i .u8,.i .u8,.i .u8,.i .u8,.i .u8,.i .u8,.i .u8,.i .u8,.i .u8,.i .u8,.i .u8,.i .u8,.i .u8,.i .u8,.i .u8,.i .u8,.i .u8,.i .u8,.i .u8,.i .u8,.i .u8,.i .u8,.i .u8,.i .u8,.i .u8,.i .u8,.i .u8,.i .u8,.i .u8,.i .u8,.i .u8,.i .u8,.i .u8,.i .u8,.i .u8,.i .u8,.i .u8,.i .u8,.i .u8,.i .u8,.i .u8,.i .u8,.i .u8,.i .u8,.i .u8,.i .u8,.i .u8,.i .u8,.i .u8,.i .u8,.i .u8,.i .u8,.i .u8,.i .u8,.i .u8,.i .u8,.i .u8,.i .u8,.i .u8,.i .u8,.i .u8,.i .u8,.i .u8,.i .u8,.i .u8,.i .u8,.i .u8,.i .u8,.i .u8,.i .u8,.i .u8,.i .u8,.i .u8,.i .u8,.i .u8,.i .u8,.i .u8,.i .u8,.i .u8,.i .u8,.i .u8,.i .u8,.i .u8,.i .u8,.i .u8,.i .u8,.i .u8,.i .u8,.i .u8,.i .u8,.i .u8,.i .u8,.i .u8,.i .u8,.i .u8,.i .u8,.i .u8,.i .u8,.i .u8,.i .u8,.i .u8,.i .u8,.i .u8,.i .u8,.i .u8,.i .u8,.i .u8,.i .u8,.i .u8,.i .u8,.i .u8,.i .u8,.i .u8,.i .u8,.i .u8,.i .u8,.i .u8,.i .u8,.i .u8,.i .u8,.i .u8,.i .u8,.i .u8,.i .u8,.i .u8,.i .u8,.i .u8,.i .u8,.i .u8,.i .u8,.i .u8,.i .u8,.i .u8,.i .u8,.i .u8,.i .u8,.i .u8,.i .u8,.i .u8,.i .u8,.i .u8,.i .u8,.i .u8,.i .u8,.i .u8,.i .u8,.i .u8,.i .u8,.i .u8,.i .u8,.i .u8,.i .u8,.i .u8,.i .u8,.i .u8,.i .u8,.i .u8,.i .u8,.i .u8,.i .u8,.i .u8,.i .u8,.i .u8,.i .u8,.i .u8,.i .u8,.i .u8,.i .u8,.i .u8,.i .u8,.i .u8,.i .u8,.i .u8,.i .u8,.i .u8,.i .u8,.i .u8,.i .u8,.i .u8,.i .u8,.i .u8,.i .u8,.i .u8,.i .u8,.i .u8,.i .u8,.i .u8,.i .u8,.i .u8,.i .u8,.i .u8,.i .u8,.i .u8,.i .u8,.i .u8,.i .u8,.i .u8,.i .u8,.i .u8,.i .u8,.i .u8,.i .u8,.i .u8,.i .u8,.i .u8,.i .u8,.i .u8,.i .u8,.i .u8,.i .u8,.i .u8,.i .u8,.i .u8,.i .u8,.i .u8,.i .u8,.i .u8,.i .u8,.i .u8,.i .u8,.i .u8,.i .u8,.i .u8,.i .u8,.i .u8,.i .u8],true⟩
def tiF201:TI:=⟨.ptr 56,1,8,[.raw (.pointer none)],none,true⟩
def Zeh:TI:=⟨.struct [(0,142),(1,3)],2,32,[.nils,.i .i64 0],none,true⟩
def tiF214:TI:=⟨.slice 217,1,24,[.nils],none,true⟩
def tiF217:TI:=⟨.array 2 3,2,16,[.i .i64 0,.i .i64 0],some [.i .i64,.i .i64],true⟩
def tiF219:TI:=⟨.array 24 5,24,24,[.i .u8 0,.i .u8 0,.i .u8 0,.i .u8 0,.i .u8 0,.i .u8 0,.i .u8 0,.i .u8 0,.i .u8 0,.i .u8 0,.i .u8 0,.i .u8 0,.i .u8 0,.i .u8 0,.i .u8 0,.i .u8 0,.i .u8 0,.i .u8 0,.i .u8 0,.i .u8 0,.i .u8 0,.i .u8 0,.i .u8 0,.i .u8 0],some [.i .u8,.i .u8,.i .u8,.i .u8,.i .u8,.i .u8,.i .u8,.i .u8,.i .u8,.i .u8,.i .u8,.i .u8,.i .u8,.i .u8,.i .u8,.i .u8,.i .u8,.i .u8,.i .u8,.i .u8,.i .u8,.i .u8,.i .u8,.i .u8],true⟩
def tiF224:TI:=⟨.int .u32,1,4,[.i .u32 0],none,true⟩
def tiF246:TI:=⟨.struct [(0,9),(1,9),(2,170)],3,48,[.s [],.s [],.raw .nilIface],none,true⟩
def tiF267:TI:=⟨.ptr 5,1,8,[.raw (.pointer none)],none,true⟩
def Zei:TI:=⟨.struct [(0,17),(1,17),(2,17),(3,9)],4,40,[.raw (.pointer none),.raw (.pointer none),.raw (.pointer none),.s []],none,true⟩
def Zej:TI:=⟨.struct [(0,12),(1,12),(2,224),(3,284),(4,5),(5,5),(6,285),(7,286),(8,267),(9,287),(10,288)],11,48,[.i .u64 0,.i .u64 0,.i .u32 0,.i .u8 0,.i .u8 0,.i .u8 0,.i .u8 0,.raw .nilFunc,.raw (.pointer none),.i .i32 0,.i .i32 0],none,true⟩
def treeF:Tr:=(.node 114 tiF1 (.node 55 tiF55 (.node 27 tiF27 (.node 14 tiF13 (.node 7 tiF7 (.node 4 tiF4 (.node 2 tiF2 (.node 1 tiF1 .leaf .leaf) (.node 3 tiF2 .leaf .leaf)) (.node 6 tiF5 (.node 5 tiF5 .leaf .leaf) .leaf)) (.node 11 tiF9 (.node 9 tiF9 (.node 8 tiF7 .leaf .leaf) (.node 10 tiF9 .leaf .leaf)) (.node 13 tiF13 (.node 12 Zd3 .leaf .leaf) .leaf))) (.node 21 Zd4 (.node 18 tiF18 (.node 16 tiF16 (.node 15 tiF15 .leaf .leaf) (.node 17 tiF17 .leaf .leaf)) (.node 20 tiF20 (.node 19 tiF18 .leaf .leaf) .leaf)) (.node 24 tiF24 (.node 23 tiF23 (.node 22 tiF22 .leaf .leaf) .leaf) (.node 26 tiF26 (.node 25 tiF25 .leaf .leaf) .leaf)))) (.node 41 tiF40 (.node 34 tiF1 (.node 31 tiF2 (.node 29 tiF29 (.node 28 tiF27 .leaf .leaf) (.node 30 tiF1 .leaf .leaf)) (.node 33 tiF33 (.node 32 tiF1 .leaf .leaf) .leaf)) (.node 38 tiF38 (.node 36 tiF36 (.node 35 tiF1 .leaf .leaf) (.node 37 tiF37 .leaf .leaf)) (.node 40 tiF40 (.node 39 tiF39 .leaf .leaf) .leaf))) (.node 48 tiF48 (.node 45 tiF1 (.node 43 Z6N (.node 42 tiF1 .leaf .leaf) (.node 44 Z6N .leaf .leaf)) (.node 47 Z6N (.node 46 Z6N .leaf .leaf) .leaf)) (.node 51 tiF1 (.node 50 tiF1 (.node 49 tiF48 .leaf .leaf) .leaf) (.node 54 tiF1 (.node 52 tiF52 .leaf .leaf) .leaf))))) (.node 83 tiF83 (.node 70 tiF1 (.node 63 tiF1 (.node 60 tiF1 (.node 58 tiF1 (.node 56 tiF55 .leaf .leaf) (.node 59 tiF1 .leaf .leaf)) (.node 62 tiF1 (.node 61 tiF1 .leaf .leaf) .leaf)) (.node 67 tiF1 (.node 65 tiF1 (.node 64 tiF1 .leaf .leaf) (.node 66 tiF66 .leaf .leaf)) (.node 69 tiF1 (.node 68 tiF68 .leaf .leaf) .leaf))) (.node 77 tiF1 (.node 74 tiF1 (.node 72 tiF1 (.node 71 tiF71 .leaf .leaf) (.node 73 tiF1 .leaf .leaf)) (.node 76 tiF75 (.node 75 tiF75 .leaf .leaf) .leaf)) (.node 80 tiF80 (.node 79 tiF78 (.node 78 tiF78 .leaf .leaf) .leaf) (.node 82 tiF82 (.node 81 tiF1 .leaf .leaf) .leaf)))) (.node 100 tiF100 (.node 92 tiF1 (.node 88 tiF1 (.node 85 tiF1 (.node 84 tiF83 .leaf .leaf) (.node 86 tiF1 .leaf .leaf)) (.node 90 tiF1 (.node 89 tiF1 .leaf .leaf) .leaf)) (.node 97 tiF1 (.node 95 tiF1 (.node 94 tiF1 .leaf .leaf) (.node 96 tiF1 .leaf .leaf)) (.node 99 tiF98 (.node 98 tiF98 .leaf .leaf) .leaf))) (.node 108 Ze9 (.node 104 tiF104 (.node 102 tiF1 (.node 101 tiF1 .leaf .leaf) (.node 103 tiF103 .leaf .leaf)) (.node 106 Ze8 (.node 105 Ze8 .leaf .leaf) .leaf)) (.node 111 tiF1 (.node 110 tiF1 (.node 109 Ze9 .leaf .leaf) .leaf) (.node 113 tiF113 (.node 112 tiF1 .leaf .leaf) .leaf)))))) (.node 177 Zef (.node 144 tiF1 (.node 128 Zec (.node 121 Zea (.node 118 tiF1 (.node 116 tiF1 (.node 115 tiF1 .leaf .leaf) (.node 117 tiF117 .leaf .leaf)) (.node 120 Zea (.node 119 tiF1 .leaf .leaf) .leaf)) (.node 125 Zeb (.node 123 tiF123 (.node 122 tiF122 .leaf .leaf) (.node 124 Zeb .leaf .leaf)) (.node 127 Zec (.node 126 tiF1 .leaf .leaf) .leaf))) (.node 135 Z8m (.node 132 tiF1 (.node 130 tiF130 (.node 129 tiF1 .leaf .leaf) (.node 131 tiF1 .leaf .leaf)) (.node 134 Z8m (.node 133 tiF1 .leaf .leaf) .leaf)) (.node 139 tiF139 (.node 138 Z8m (.node 137 Z8m .leaf .leaf) .leaf) (.node 142 tiF142 (.node 141 tiF1 .leaf .leaf) .leaf)))) (.node 160 tiF1 (.node 151 Zd3 (.node 148 tiF1 (.node 146 Zed (.node 145 Zed .leaf .leaf) (.node 147 tiF1 .leaf .leaf)) (.node 150 tiF1 (.node 149 tiF1 .leaf .leaf) .leaf)) (.node 156 tiF1 (.node 154 tiF1 (.node 152 tiF1 .leaf .leaf) (.node 155 tiF1 .leaf .leaf)) (.node 158 tiF1 (.node 157 tiF1 .leaf .leaf) .leaf))) (.node 170 Zee (.node 166 tiF1 (.node 163 tiF163 (.node 161 tiF1 .leaf .leaf) (.node 165 tiF1 .leaf .leaf)) (.node 169 Zee (.node 168 tiF1 .leaf .leaf) .leaf)) (.node 174 tiF1 (.node 173 tiF173 (.node 172 tiF1 .leaf .leaf) .leaf) (.node 176 tiF1 (.node 175 tiF1 .leaf .leaf) .leaf))))) (.node 216 tiF1 (.node 193 tiF1 (.node 185 tiF1 (.node 181 tiF181 (.node 179 tiF179 (.node 178 Zef .leaf .leaf) (.node 180 tiF1 .leaf .leaf)) (.node 183 Zeg (.node 182 Zeg .leaf .leaf) .leaf)) (.node 190 Zd3 (.node 188 tiF1 (.node 187 tiF1 .leaf .leaf) (.node 189 tiF1 .leaf .leaf)) (.node 192 tiF192 (.node 191 tiF1 .leaf .leaf) .leaf))) (.node 203 tiF1 (.node 197 tiF1 (.node 195 tiF1 (.node 194 tiF1 .leaf .leaf) (.node 196 tiF1 .leaf .leaf)) (.node 201 tiF201 (.node 200 tiF1 .leaf .leaf) .leaf)) (.node 210 Zeh (.node 209 Zeh (.node 206 tiF1 .leaf .leaf) .leaf) (.node 214 tiF214 (.node 213 tiF1 .leaf .leaf) .leaf)))) (.node 246 tiF246 (.node 224 tiF224 (.node 220 tiF1 (.node 218 tiF1 (.node 217 tiF217 .leaf .leaf) (.node 219 tiF219 .leaf .leaf)) (.node 223 tiF1 (.node 221 tiF1 .leaf .leaf) .leaf)) (.node 233 Z6N (.node 227 tiF2 (.node 226 tiF1 .leaf .leaf) .leaf) (.node 238 tiF1 (.node 234 Z6N .leaf .leaf) .leaf))) (.node 285 tiF5 (.node 279 Zei (.node 266 tiF1 (.node 256 tiF1 .leaf .leaf) (.node 267 tiF267 .leaf .leaf)) (.node 284 tiF5 (.node 280 Zei .leaf .leaf) .leaf)) (.node 288 Zd4 (.node 287 Zd4 (.node 286 tiF1 .leaf .leaf) .leaf) (.node 290 Zej (.node 289 Zej .leaf .leaf) .leaf)))))))
def TF:Tb:=treeF.get
theorem Z5:TabOk Tryz.prog TF:=by
 refine Z2V ?_
 exact ⟨entX,⟨entX,⟨entX,⟨entX,⟨entX,⟨entX,⟨entX,⟨entX,trivial,trivial⟩,⟨entX,trivial,trivial⟩⟩,⟨entX,⟨entX,trivial,trivial⟩,trivial⟩⟩,⟨entX,⟨entX,⟨entX,trivial,trivial⟩,⟨entX,trivial,trivial⟩⟩,⟨entX,⟨entX,trivial,trivial⟩,trivial⟩⟩⟩,⟨entX,⟨entX,⟨entX,⟨entX,trivial,trivial⟩,⟨entX,trivial,trivial⟩⟩,⟨entX,⟨entX,trivial,trivial⟩,trivial⟩⟩,⟨entX,⟨entX,⟨entX,trivial,trivial⟩,trivial⟩,⟨entX,⟨entX,trivial,trivial⟩,trivial⟩⟩⟩⟩,⟨entX,⟨entX,⟨entX,⟨entX,⟨entX,trivial,trivial⟩,⟨entX,trivial,trivial⟩⟩,⟨entX,⟨entX,trivial,trivial⟩,trivial⟩⟩,⟨entX,⟨entX,⟨entX,trivial,trivial⟩,⟨entX,trivial,trivial⟩⟩,⟨entX,⟨entX,trivial,trivial⟩,trivial⟩⟩⟩,⟨entX,⟨entX,⟨entX,⟨entX,trivial,trivial⟩,⟨entX,trivial,trivial⟩⟩,⟨entX,⟨entX,trivial,trivial⟩,trivial⟩⟩,⟨entX,⟨entX,⟨entX,trivial,trivial⟩,trivial⟩,⟨entX,⟨entX,trivial,trivial⟩,trivial⟩⟩⟩⟩⟩,⟨entX,⟨entX,⟨entX,⟨entX,⟨entX,⟨entX,trivial,trivial⟩,⟨entX,trivial,trivial⟩⟩,⟨entX,⟨entX,trivial,trivial⟩,trivial⟩⟩,⟨entX,⟨entX,⟨entX,trivial,trivial⟩,⟨entX,trivial,trivial⟩⟩,⟨entX,⟨entX,trivial,trivial⟩,trivial⟩⟩⟩,⟨entX,⟨entX,⟨entX,⟨entX,trivial,trivial⟩,⟨entX,trivial,trivial⟩⟩,⟨entX,⟨entX,trivial,trivial⟩,trivial⟩⟩,⟨entX,⟨entX,⟨entX,trivial,trivial⟩,trivial⟩,⟨entX,⟨entX,trivial,trivial⟩,trivial⟩⟩⟩⟩,⟨entX,⟨entX,⟨entX,⟨entX,⟨entX,trivial,trivial⟩,⟨entX,trivial,trivial⟩⟩,⟨entX,⟨entX,trivial,trivial⟩,trivial⟩⟩,⟨entX,⟨entX,⟨entX,trivial,trivial⟩,⟨entX,trivial,trivial⟩⟩,⟨entX,⟨entX,trivial,trivial⟩,trivial⟩⟩⟩,⟨entX,⟨entX,⟨entX,⟨entX,trivial,trivial⟩,⟨entX,trivial,trivial⟩⟩,⟨entX,⟨entX,trivial,trivial⟩,trivial⟩⟩,⟨entX,⟨entX,⟨entX,trivial,trivial⟩,trivial⟩,⟨entX,⟨entX,trivial,trivial⟩,trivial⟩⟩⟩⟩⟩⟩,⟨entX,⟨entX,⟨entX,⟨entX,⟨entX,⟨entX,⟨entX,trivial,trivial⟩,⟨entX,trivial,trivial⟩⟩,⟨entX,⟨entX,trivial,trivial⟩,trivial⟩⟩,⟨entX,⟨entX,⟨entX,trivial,trivial⟩,⟨entX,trivial,trivial⟩⟩,⟨entX,⟨entX,trivial,trivial⟩,trivial⟩⟩⟩,⟨entX,⟨entX,⟨entX,⟨entX,trivial,trivial⟩,⟨entX,trivial,trivial⟩⟩,⟨entX,⟨entX,trivial,trivial⟩,trivial⟩⟩,⟨entX,⟨entX,⟨entX,trivial,trivial⟩,trivial⟩,⟨entX,⟨entX,trivial,trivial⟩,trivial⟩⟩⟩⟩,⟨entX,⟨entX,⟨entX,⟨entX,⟨entX,trivial,trivial⟩,⟨entX,trivial,trivial⟩⟩,⟨entX,⟨entX,trivial,trivial⟩,trivial⟩⟩,⟨entX,⟨entX,⟨entX,trivial,trivial⟩,⟨entX,trivial,trivial⟩⟩,⟨entX,⟨entX,trivial,trivial⟩,trivial⟩⟩⟩,⟨entX,⟨entX,⟨entX,⟨entX,trivial,trivial⟩,⟨entX,trivial,trivial⟩⟩,⟨entX,⟨entX,trivial,trivial⟩,trivial⟩⟩,⟨entX,⟨entX,⟨entX,trivial,trivial⟩,trivial⟩,⟨entX,⟨entX,trivial,trivial⟩,trivial⟩⟩⟩⟩⟩,⟨entX,⟨entX,⟨entX,⟨entX,⟨entX,⟨entX,trivial,trivial⟩,⟨entX,trivial,trivial⟩⟩,⟨entX,⟨entX,trivial,trivial⟩,trivial⟩⟩,⟨entX,⟨entX,⟨entX,trivial,trivial⟩,⟨entX,trivial,trivial⟩⟩,⟨entX,⟨entX,trivial,trivial⟩,trivial⟩⟩⟩,⟨entX,⟨entX,⟨entX,⟨entX,trivial,trivial⟩,⟨entX,trivial,trivial⟩⟩,⟨entX,⟨entX,trivial,trivial⟩,trivial⟩⟩,⟨entX,⟨entX,⟨entX,trivial,trivial⟩,trivial⟩,⟨entX,⟨entX,trivial,trivial⟩,trivial⟩⟩⟩⟩,⟨entX,⟨entX,⟨entX,⟨entX,⟨entX,trivial,trivial⟩,⟨entX,trivial,trivial⟩⟩,⟨entX,⟨entX,trivial,trivial⟩,trivial⟩⟩,⟨entX,⟨entX,⟨entX,trivial,trivial⟩,trivial⟩,⟨entX,⟨entX,trivial,trivial⟩,trivial⟩⟩⟩,⟨entX,⟨entX,⟨entX,⟨entX,trivial,trivial⟩,⟨entX,trivial,trivial⟩⟩,⟨entX,⟨entX,trivial,trivial⟩,trivial⟩⟩,⟨entX,⟨entX,⟨entX,trivial,trivial⟩,trivial⟩,⟨entX,⟨entX,trivial,trivial⟩,trivial⟩⟩⟩⟩⟩⟩⟩
def ti1:TI:=⟨.func,1,8,[.raw .nilFunc],none,false⟩
def ti2:TI:=⟨.int .i64,1,8,[.i .i64 0],none,false⟩
def ti4:TI:=⟨.bool,1,1,[.b false],none,false⟩
def ti5:TI:=⟨.int .u8,1,1,[.i .u8 0],none,false⟩
def ti7:TI:=⟨.struct [(0,2),(1,3),(2,4),(3,6)],4,24,[.i .i64 0,.i .i64 0,.b false,.i .u8 0],none,false⟩
def ti9:TI:=⟨.str,1,16,[.s []],none,false⟩
def ti12:TI:=⟨.int .u64,1,8,[.i .u64 0],none,false⟩
def ti13:TI:=⟨.struct [(0,9),(1,12)],2,24,[.s [],.i .u64 0],none,false⟩
def ti15:TI:=⟨.ptr 280,1,8,[.raw (.pointer none)],none,false⟩
def ti16:TI:=⟨.ptr 283,1,8,[.raw (.pointer none)],none,false⟩
def ti17:TI:=⟨.ptr 290,1,8,[.raw (.pointer none)],none,false⟩
def ti18:TI:=⟨.struct [(0,17)],1,8,[.raw (.pointer none)],none,false⟩
def ti20:TI:=⟨.iface false,1,16,[.raw .nilIface],none,false⟩
def ti21:TI:=⟨.int .i32,1,4,[.i .i32 0],none,false⟩
def ti22:TI:=⟨.array 3 3,3,24,[.ints .i64 3 [0,0,0]],some [.i .i64,.i .i64,.i .i64],false⟩
def ti23:TI:=⟨.array 8 3,8,64,[.ints .i64 8 [0,0,0,0,0,0,0,0]],some [.i .i64,.i .i64,.i .i64,.i .i64,.i .i64,.i .i64,.i .i64,.i .i64],false⟩
def ti24:TI:=⟨.array 3 23,24,192,[.arr 3 (List Int) [0,0,0,0,0,0,0,0] 8 (fun x=>[.ints .i64 8 x]) [[0,0,0,0,0,0,0,0],[0,0,0,0,0,0,0,0],[0,0,0,0,0,0,0,0]]],some [.i .i64,.i .i64,.i .i64,.i .i64,.i .i64,.i .i64,.i .i64,.i .i64,.i .i64,.i .i64,.i .i64,.i .i64,.i .i64,.i .i64,.i .i64,.i .i64,.i .i64,.i .i64,.i .i64,.i .i64,.i .i64,.i .i64,.i .i64,.i .i64],false⟩
def ti25:TI:=⟨.slice 38,1,24,[.nils],none,false⟩
def ti26:TI:=⟨.slice 79,1,24,[.nils],none,false⟩
def ti27:TI:=⟨.struct [(0,3),(1,9),(2,22),(5,24),(29,25),(30,3),(31,26)],32,296,[.i .i64 0,.s [],.ints .i64 3 [0,0,0],.arr 3 (List Int) [0,0,0,0,0,0,0,0] 8 (fun x=>[.ints .i64 8 x]) [[0,0,0,0,0,0,0,0],[0,0,0,0,0,0,0,0],[0,0,0,0,0,0,0,0]],.nils,.i .i64 0,.nils],none,false⟩
def ti28:TI:=⟨.struct [(0,3),(1,9),(2,22),(5,24),(29,25),(30,3),(31,26)],32,296,[.i .i64 0,.s [],.ints .i64 3 [0,0,0],.arr 3 (List Int) [0,0,0,0,0,0,0,0] 8 (fun x=>[.ints .i64 8 x]) [[0,0,0,0,0,0,0,0],[0,0,0,0,0,0,0,0],[0,0,0,0,0,0,0,0]],.nils,.i .i64 0,.nils],none,false⟩
def ti29:TI:=⟨.slice 44,1,24,[.nils],none,false⟩
def ti33:TI:=⟨.ptr 106,1,8,[.raw (.pointer none)],none,false⟩
def ti36:TI:=⟨.slice 37,1,24,[.nils],none,false⟩
def ti37:TI:=⟨.ptr 41,1,8,[.raw (.pointer none)],none,false⟩
def ti38:TI:=⟨.slice 56,1,24,[.nils],none,false⟩
def ti39:TI:=⟨.slice 3,1,24,[.nils],none,false⟩
def ti40:TI:=⟨.struct [(0,38),(1,23),(9,3),(10,39)],11,120,[.nils,.ints .i64 8 [0,0,0,0,0,0,0,0],.i .i64 0,.nils],none,false⟩
def ti43:TI:=⟨.struct [(0,3),(1,3)],2,16,[.i .i64 0,.i .i64 0],some [.i .i64,.i .i64],false⟩
def ti48:TI:=⟨.struct [(0,3),(1,3),(2,3),(3,3),(4,47),(6,4),(7,4),(8,3),(9,3),(10,4),(11,4),(12,4),(13,3),(14,3)],15,96,[.i .i64 0,.i .i64 0,.i .i64 0,.i .i64 0,.i .i64 0,.i .i64 0,.b false,.b false,.i .i64 0,.i .i64 0,.b false,.b false,.b false,.i .i64 0,.i .i64 0],some [.i .i64,.i .i64,.i .i64,.i .i64,.i .i64,.i .i64,.b,.b,.i .i64,.i .i64,.b,.b,.b,.i .i64,.i .i64],false⟩
def ti52:TI:=⟨.slice 49,1,24,[.nils],none,false⟩
def ti55:TI:=⟨.struct [(0,3),(1,3),(2,3),(3,3),(4,3),(5,3),(6,3),(7,3),(8,3),(9,3),(10,4),(11,4),(12,4),(13,3),(14,3),(15,3),(16,4)],17,120,[.i .i64 0,.i .i64 0,.i .i64 0,.i .i64 0,.i .i64 0,.i .i64 0,.i .i64 0,.i .i64 0,.i .i64 0,.i .i64 0,.b false,.b false,.b false,.i .i64 0,.i .i64 0,.i .i64 0,.b false],some [.i .i64,.i .i64,.i .i64,.i .i64,.i .i64,.i .i64,.i .i64,.i .i64,.i .i64,.i .i64,.b,.b,.b,.i .i64,.i .i64,.i .i64,.b],false⟩
def ti78:TI:=⟨.struct [(0,3),(1,3),(2,3),(3,3),(4,3)],5,40,[.i .i64 0,.i .i64 0,.i .i64 0,.i .i64 0,.i .i64 0],some [.i .i64,.i .i64,.i .i64,.i .i64,.i .i64],false⟩
def ti82:TI:=⟨.slice 139,1,24,[.nils],none,false⟩
def ti83:TI:=⟨.struct [(0,33),(1,22),(4,82)],5,56,[.raw (.pointer none),.ints .i64 3 [0,0,0],.nils],none,false⟩
def ti104:TI:=⟨.slice 109,1,24,[.nils],none,false⟩
def Zad:TI:=⟨.struct [(0,104)],1,24,[.nils],none,false⟩
def Zae:TI:=⟨.struct [(0,38),(1,3),(2,23)],10,96,[.nils,.i .i64 0,.ints .i64 8 [0,0,0,0,0,0,0,0]],none,false⟩
def ti113:TI:=⟨.ptr 109,1,8,[.raw (.pointer none)],none,false⟩
def ti137:TI:=⟨.struct [(0,47),(2,3)],3,24,[.i .i64 0,.i .i64 0,.i .i64 0],some [.i .i64,.i .i64,.i .i64],false⟩
def ti139:TI:=⟨.slice 138,1,24,[.nils],none,false⟩
def ti173:TI:=⟨.slice 9,1,24,[.nils],none,false⟩
def ti177:TI:=⟨.struct [(0,173),(1,9),(2,175),(3,176)],4,56,[.nils,.s [],.raw .nilFunc,.raw .nilFunc],none,false⟩
def ti219:TI:=⟨.array 24 5,24,24,[.ints .u8 24 [0,0,0,0,0,0,0,0,0,0,0,0,0,0,0,0,0,0,0,0,0,0,0,0]],some [.i .u8,.i .u8,.i .u8,.i .u8,.i .u8,.i .u8,.i .u8,.i .u8,.i .u8,.i .u8,.i .u8,.i .u8,.i .u8,.i .u8,.i .u8,.i .u8,.i .u8,.i .u8,.i .u8,.i .u8,.i .u8,.i .u8,.i .u8,.i .u8],false⟩
def Zd5:TI:=⟨.int .u32,1,4,[.i .u32 0],none,false⟩
def Zd6:TI:=⟨.ptr 5,1,8,[.raw (.pointer none)],none,false⟩
def Z6O:TI:=⟨.struct [(0,17),(1,17),(2,17),(3,9)],4,40,[.raw (.pointer none),.raw (.pointer none),.raw (.pointer none),.s []],none,false⟩
def Z6P:TI:=⟨.struct [(0,12),(1,12),(2,224),(3,284),(4,5),(5,5),(6,285),(7,286),(8,267),(9,287),(10,288)],11,48,[.i .u64 0,.i .u64 0,.i .u32 0,.i .u8 0,.i .u8 0,.i .u8 0,.i .u8 0,.raw .nilFunc,.raw (.pointer none),.i .i32 0,.i .i32 0],none,false⟩
def tree:Tr:=(.node 52 ti52 (.node 25 ti25 (.node 13 ti13 (.node 7 ti7 (.node 4 ti4 (.node 2 ti2 (.node 1 ti1 .leaf .leaf) (.node 3 ti2 .leaf .leaf)) (.node 6 ti5 (.node 5 ti5 .leaf .leaf) .leaf)) (.node 10 ti9 (.node 9 ti9 (.node 8 ti7 .leaf .leaf) .leaf) (.node 12 ti12 (.node 11 ti9 .leaf .leaf) .leaf))) (.node 19 ti18 (.node 16 ti16 (.node 15 ti15 (.node 14 ti13 .leaf .leaf) .leaf) (.node 18 ti18 (.node 17 ti17 .leaf .leaf) .leaf)) (.node 22 ti22 (.node 21 ti21 (.node 20 ti20 .leaf .leaf) .leaf) (.node 24 ti24 (.node 23 ti23 .leaf .leaf) .leaf)))) (.node 37 ti37 (.node 31 ti2 (.node 28 ti28 (.node 27 ti27 (.node 26 ti26 .leaf .leaf) .leaf) (.node 30 ti1 (.node 29 ti29 .leaf .leaf) .leaf)) (.node 34 ti1 (.node 33 ti33 (.node 32 ti1 .leaf .leaf) .leaf) (.node 36 ti36 (.node 35 ti1 .leaf .leaf) .leaf))) (.node 44 ti43 (.node 40 ti40 (.node 39 ti39 (.node 38 ti38 .leaf .leaf) .leaf) (.node 43 ti43 (.node 41 ti40 .leaf .leaf) .leaf)) (.node 47 ti43 (.node 46 ti43 (.node 45 ti1 .leaf .leaf) .leaf) (.node 49 ti48 (.node 48 ti48 .leaf .leaf) .leaf))))) (.node 111 ti1 (.node 81 ti1 (.node 62 ti1 (.node 59 ti1 (.node 55 ti55 (.node 54 ti1 .leaf .leaf) (.node 56 ti55 .leaf .leaf)) (.node 61 ti1 (.node 60 ti1 .leaf .leaf) .leaf)) (.node 65 ti1 (.node 64 ti1 (.node 63 ti1 .leaf .leaf) .leaf) (.node 79 ti78 (.node 78 ti78 .leaf .leaf) .leaf))) (.node 104 ti104 (.node 84 ti83 (.node 83 ti83 (.node 82 ti82 .leaf .leaf) .leaf) (.node 102 ti1 (.node 88 ti1 .leaf .leaf) .leaf)) (.node 108 Zae (.node 106 Zad (.node 105 Zad .leaf .leaf) .leaf) (.node 110 ti1 (.node 109 Zae .leaf .leaf) .leaf)))) (.node 219 ti219 (.node 147 ti1 (.node 137 ti137 (.node 132 ti1 (.node 113 ti113 .leaf .leaf) .leaf) (.node 139 ti139 (.node 138 ti137 .leaf .leaf) .leaf)) (.node 176 ti1 (.node 175 ti1 (.node 173 ti173 .leaf .leaf) .leaf) (.node 178 ti177 (.node 177 ti177 .leaf .leaf) .leaf))) (.node 285 ti5 (.node 279 Z6O (.node 267 Zd6 (.node 224 Zd5 .leaf .leaf) .leaf) (.node 284 ti5 (.node 280 Z6O .leaf .leaf) .leaf)) (.node 288 ti21 (.node 287 ti21 (.node 286 ti1 .leaf .leaf) .leaf) (.node 290 Z6P (.node 289 Z6P .leaf .leaf) .leaf))))))
def T:Tb:=tree.get
theorem ent24:EntOk Tryz.prog T 24 ti24:=⟨by kernel_rfl,by simp [ti24,OkL,Ok,isUnit,Z1Z,wdL,wd] <;> decide,by kernel_rfl,by kernel_rfl,by kernel_rfl,by first | exact trivial | exact ⟨by kernel_rfl,by kernel_rfl,rfl⟩,by first | trivial | exact ⟨by kernel_rfl,by kernel_rfl⟩⟩
theorem ent27:EntOk Tryz.prog T 27 ti27:=⟨by kernel_rfl,by simp [ti27,OkL,Ok,isUnit,Z1Z,wdL,wd] <;> decide,by kernel_rfl,by kernel_rfl,by kernel_rfl,by first | exact trivial | exact ⟨by kernel_rfl,by kernel_rfl,rfl⟩,by first | trivial | exact ⟨by kernel_rfl,by kernel_rfl⟩⟩
theorem ent28:EntOk Tryz.prog T 28 ti28:=⟨by kernel_rfl,by simp [ti28,OkL,Ok,isUnit,Z1Z,wdL,wd] <;> decide,by kernel_rfl,by kernel_rfl,by kernel_rfl,by first | exact trivial | exact ⟨by kernel_rfl,by kernel_rfl,rfl⟩,by first | trivial | exact ⟨by kernel_rfl,by kernel_rfl⟩⟩
theorem Zi:TabOk Tryz.prog T:=by
 refine Z2V ?_
 exact ⟨entX,⟨entX,⟨entX,⟨entX,⟨entX,⟨entX,⟨entX,trivial,trivial⟩,⟨entX,trivial,trivial⟩⟩,⟨entX,⟨entX,trivial,trivial⟩,trivial⟩⟩,⟨entX,⟨entX,⟨entX,trivial,trivial⟩,trivial⟩,⟨entX,⟨entX,trivial,trivial⟩,trivial⟩⟩⟩,⟨entX,⟨entX,⟨entX,⟨entX,trivial,trivial⟩,trivial⟩,⟨entX,⟨entX,trivial,trivial⟩,trivial⟩⟩,⟨entX,⟨entX,⟨entX,trivial,trivial⟩,trivial⟩,⟨ent24,⟨entX,trivial,trivial⟩,trivial⟩⟩⟩⟩,⟨entX,⟨entX,⟨ent28,⟨ent27,⟨entX,trivial,trivial⟩,trivial⟩,⟨entX,⟨entX,trivial,trivial⟩,trivial⟩⟩,⟨entX,⟨entX,⟨entX,trivial,trivial⟩,trivial⟩,⟨entX,⟨entX,trivial,trivial⟩,trivial⟩⟩⟩,⟨entX,⟨entX,⟨entX,⟨entX,trivial,trivial⟩,trivial⟩,⟨entX,⟨entX,trivial,trivial⟩,trivial⟩⟩,⟨entX,⟨entX,⟨entX,trivial,trivial⟩,trivial⟩,⟨entX,⟨entX,trivial,trivial⟩,trivial⟩⟩⟩⟩⟩,⟨entX,⟨entX,⟨entX,⟨entX,⟨entX,⟨entX,trivial,trivial⟩,⟨entX,trivial,trivial⟩⟩,⟨entX,⟨entX,trivial,trivial⟩,trivial⟩⟩,⟨entX,⟨entX,⟨entX,trivial,trivial⟩,trivial⟩,⟨entX,⟨entX,trivial,trivial⟩,trivial⟩⟩⟩,⟨entX,⟨entX,⟨entX,⟨entX,trivial,trivial⟩,trivial⟩,⟨entX,⟨entX,trivial,trivial⟩,trivial⟩⟩,⟨entX,⟨entX,⟨entX,trivial,trivial⟩,trivial⟩,⟨entX,⟨entX,trivial,trivial⟩,trivial⟩⟩⟩⟩,⟨entX,⟨entX,⟨entX,⟨entX,⟨entX,trivial,trivial⟩,trivial⟩,⟨entX,⟨entX,trivial,trivial⟩,trivial⟩⟩,⟨entX,⟨entX,⟨entX,trivial,trivial⟩,trivial⟩,⟨entX,⟨entX,trivial,trivial⟩,trivial⟩⟩⟩,⟨entX,⟨entX,⟨entX,⟨entX,trivial,trivial⟩,trivial⟩,⟨entX,⟨entX,trivial,trivial⟩,trivial⟩⟩,⟨entX,⟨entX,⟨entX,trivial,trivial⟩,trivial⟩,⟨entX,⟨entX,trivial,trivial⟩,trivial⟩⟩⟩⟩⟩⟩
def treeP:Tr:=(.node 33 ti33 (.node 15 ti15 (.node 8 ti7 (.node 4 ti4 (.node 2 ti2 (.node 1 ti1 .leaf .leaf) (.node 3 ti2 .leaf .leaf)) (.node 6 ti5 (.node 5 ti5 .leaf .leaf) (.node 7 ti7 .leaf .leaf))) (.node 12 ti12 (.node 10 ti9 (.node 9 ti9 .leaf .leaf) (.node 11 ti9 .leaf .leaf)) (.node 14 ti13 (.node 13 ti13 .leaf .leaf) .leaf))) (.node 23 ti23 (.node 19 ti18 (.node 17 ti17 (.node 16 ti16 .leaf .leaf) (.node 18 ti18 .leaf .leaf)) (.node 21 ti21 (.node 20 ti20 .leaf .leaf) (.node 22 ti22 .leaf .leaf))) (.node 27 ti27 (.node 25 ti25 (.node 24 ti24 .leaf .leaf) (.node 26 ti26 .leaf .leaf)) (.node 31 ti2 (.node 28 ti27 .leaf .leaf) .leaf)))) (.node 108 Zae (.node 55 ti55 (.node 47 ti43 (.node 39 ti39 (.node 38 ti38 .leaf .leaf) (.node 46 ti43 .leaf .leaf)) (.node 49 ti48 (.node 48 ti48 .leaf .leaf) (.node 52 ti52 .leaf .leaf))) (.node 104 ti104 (.node 78 ti78 (.node 56 ti55 .leaf .leaf) (.node 79 ti78 .leaf .leaf)) (.node 106 Zad (.node 105 Zad .leaf .leaf) .leaf))) (.node 284 ti5 (.node 267 Zd6 (.node 147 ti1 (.node 109 Zae .leaf .leaf) (.node 224 Zd5 .leaf .leaf)) (.node 280 Z6O (.node 279 Z6O .leaf .leaf) .leaf)) (.node 288 ti21 (.node 286 ti1 (.node 285 ti5 .leaf .leaf) (.node 287 ti21 .leaf .leaf)) (.node 290 Z6P (.node 289 Z6P .leaf .leaf) .leaf)))))
def TP:Tb:=treeP.get
theorem entP24:EntOk Tryz.prog TP 24 ti24:=⟨by kernel_rfl,by simp [ti24,OkL,Ok,isUnit,Z1Z,wdL,wd] <;> decide,by kernel_rfl,by kernel_rfl,by kernel_rfl,by first | exact trivial | exact ⟨by kernel_rfl,by kernel_rfl,rfl⟩,by first | trivial | exact ⟨by kernel_rfl,by kernel_rfl⟩⟩
theorem entP27:EntOk Tryz.prog TP 27 ti27:=⟨by kernel_rfl,by simp [ti27,OkL,Ok,isUnit,Z1Z,wdL,wd] <;> decide,by kernel_rfl,by kernel_rfl,by kernel_rfl,by first | exact trivial | exact ⟨by kernel_rfl,by kernel_rfl,rfl⟩,by first | trivial | exact ⟨by kernel_rfl,by kernel_rfl⟩⟩
theorem entP28:EntOk Tryz.prog TP 28 ti27:=⟨by kernel_rfl,by simp [ti27,OkL,Ok,isUnit,Z1Z,wdL,wd] <;> decide,by kernel_rfl,by kernel_rfl,by kernel_rfl,by first | exact trivial | exact ⟨by kernel_rfl,by kernel_rfl,rfl⟩,by first | trivial | exact ⟨by kernel_rfl,by kernel_rfl⟩⟩
theorem Z3h:TabOk Tryz.prog TP:=by
 refine Z2V ?_
 exact ⟨entX,⟨entX,⟨entX,⟨entX,⟨entX,⟨entX,trivial,trivial⟩,⟨entX,trivial,trivial⟩⟩,⟨entX,⟨entX,trivial,trivial⟩,⟨entX,trivial,trivial⟩⟩⟩,⟨entX,⟨entX,⟨entX,trivial,trivial⟩,⟨entX,trivial,trivial⟩⟩,⟨entX,⟨entX,trivial,trivial⟩,trivial⟩⟩⟩,⟨entX,⟨entX,⟨entX,⟨entX,trivial,trivial⟩,⟨entX,trivial,trivial⟩⟩,⟨entX,⟨entX,trivial,trivial⟩,⟨entX,trivial,trivial⟩⟩⟩,⟨entP27,⟨entX,⟨entP24,trivial,trivial⟩,⟨entX,trivial,trivial⟩⟩,⟨entX,⟨entP28,trivial,trivial⟩,trivial⟩⟩⟩⟩,⟨entX,⟨entX,⟨entX,⟨entX,⟨entX,trivial,trivial⟩,⟨entX,trivial,trivial⟩⟩,⟨entX,⟨entX,trivial,trivial⟩,⟨entX,trivial,trivial⟩⟩⟩,⟨entX,⟨entX,⟨entX,trivial,trivial⟩,⟨entX,trivial,trivial⟩⟩,⟨entX,⟨entX,trivial,trivial⟩,trivial⟩⟩⟩,⟨entX,⟨entX,⟨entX,⟨entX,trivial,trivial⟩,⟨entX,trivial,trivial⟩⟩,⟨entX,⟨entX,trivial,trivial⟩,trivial⟩⟩,⟨entX,⟨entX,⟨entX,trivial,trivial⟩,⟨entX,trivial,trivial⟩⟩,⟨entX,⟨entX,trivial,trivial⟩,trivial⟩⟩⟩⟩⟩
def tiM27:TI:=⟨.struct [(0,3),(1,9),(2,22),(5,24),(29,25),(30,3),(31,26)],32,296,[.i .i64 0,.s [],.i .i64 0,.i .i64 0,.i .i64 0,.i .i64 0,.i .i64 0,.i .i64 0,.i .i64 0,.i .i64 0,.i .i64 0,.i .i64 0,.i .i64 0,.i .i64 0,.i .i64 0,.i .i64 0,.i .i64 0,.i .i64 0,.i .i64 0,.i .i64 0,.i .i64 0,.i .i64 0,.i .i64 0,.i .i64 0,.i .i64 0,.i .i64 0,.i .i64 0,.i .i64 0,.i .i64 0,.nils,.i .i64 0,.nils],none,false⟩
def tiM75:TI:=⟨.struct [(0,3),(1,3),(2,3),(3,3)],4,32,[.i .i64 0,.i .i64 0,.i .i64 0,.i .i64 0],some [.i .i64,.i .i64,.i .i64,.i .i64],false⟩
def tiM98:TI:=⟨.struct [(0,9),(1,94),(2,95),(3,96),(4,97)],5,48,[.s [],.raw .nilFunc,.raw .nilFunc,.raw .nilFunc,.raw .nilFunc],none,false⟩
def tiM100:TI:=⟨.slice 99,1,24,[.nils],none,false⟩
def tiM103:TI:=⟨.slice 23,1,24,[.nils],none,false⟩
def treeM:Tr:=(.node 38 ti38 (.node 15 ti15 (.node 8 ti7 (.node 4 ti4 (.node 2 ti2 (.node 1 ti1 .leaf .leaf) (.node 3 ti2 .leaf .leaf)) (.node 6 ti5 (.node 5 ti5 .leaf .leaf) (.node 7 ti7 .leaf .leaf))) (.node 12 ti12 (.node 10 ti9 (.node 9 ti9 .leaf .leaf) (.node 11 ti9 .leaf .leaf)) (.node 14 ti13 (.node 13 ti13 .leaf .leaf) .leaf))) (.node 23 tiF23 (.node 19 ti18 (.node 17 ti17 (.node 16 ti16 .leaf .leaf) (.node 18 ti18 .leaf .leaf)) (.node 21 ti21 (.node 20 ti20 .leaf .leaf) (.node 22 tiF22 .leaf .leaf))) (.node 27 tiM27 (.node 25 ti25 (.node 24 tiF24 .leaf .leaf) (.node 26 ti26 .leaf .leaf)) (.node 31 ti2 (.node 28 tiM27 .leaf .leaf) .leaf)))) (.node 98 tiM98 (.node 76 tiM75 (.node 46 ti43 (.node 44 ti43 (.node 43 ti43 .leaf .leaf) (.node 45 ti1 .leaf .leaf)) (.node 56 ti55 (.node 55 ti55 .leaf .leaf) (.node 75 tiM75 .leaf .leaf))) (.node 95 ti1 (.node 79 ti78 (.node 78 ti78 .leaf .leaf) (.node 94 ti1 .leaf .leaf)) (.node 97 ti1 (.node 96 ti1 .leaf .leaf) .leaf))) (.node 284 ti5 (.node 224 Zd5 (.node 100 tiM100 (.node 99 tiM98 .leaf .leaf) (.node 103 tiM103 .leaf .leaf)) (.node 279 Z6O (.node 267 Zd6 .leaf .leaf) (.node 280 Z6O .leaf .leaf))) (.node 288 ti21 (.node 286 ti1 (.node 285 ti5 .leaf .leaf) (.node 287 ti21 .leaf .leaf)) (.node 290 Z6P (.node 289 Z6P .leaf .leaf) .leaf)))))
def TM:Tb:=treeM.get
theorem Z1g:TabOk Tryz.prog TM:=by
 refine Z2V ?_
 exact ⟨entX,⟨entX,⟨entX,⟨entX,⟨entX,⟨entX,trivial,trivial⟩,⟨entX,trivial,trivial⟩⟩,⟨entX,⟨entX,trivial,trivial⟩,⟨entX,trivial,trivial⟩⟩⟩,⟨entX,⟨entX,⟨entX,trivial,trivial⟩,⟨entX,trivial,trivial⟩⟩,⟨entX,⟨entX,trivial,trivial⟩,trivial⟩⟩⟩,⟨entX,⟨entX,⟨entX,⟨entX,trivial,trivial⟩,⟨entX,trivial,trivial⟩⟩,⟨entX,⟨entX,trivial,trivial⟩,⟨entX,trivial,trivial⟩⟩⟩,⟨entX,⟨entX,⟨entX,trivial,trivial⟩,⟨entX,trivial,trivial⟩⟩,⟨entX,⟨entX,trivial,trivial⟩,trivial⟩⟩⟩⟩,⟨entX,⟨entX,⟨entX,⟨entX,⟨entX,trivial,trivial⟩,⟨entX,trivial,trivial⟩⟩,⟨entX,⟨entX,trivial,trivial⟩,⟨entX,trivial,trivial⟩⟩⟩,⟨entX,⟨entX,⟨entX,trivial,trivial⟩,⟨entX,trivial,trivial⟩⟩,⟨entX,⟨entX,trivial,trivial⟩,trivial⟩⟩⟩,⟨entX,⟨entX,⟨entX,⟨entX,trivial,trivial⟩,⟨entX,trivial,trivial⟩⟩,⟨entX,⟨entX,trivial,trivial⟩,⟨entX,trivial,trivial⟩⟩⟩,⟨entX,⟨entX,⟨entX,trivial,trivial⟩,⟨entX,trivial,trivial⟩⟩,⟨entX,⟨entX,trivial,trivial⟩,trivial⟩⟩⟩⟩⟩
section
section
variable {P:Program} {T:Tb} {ops:Array Oper} {o:Oper}
end
end
section
section
variable {P:Program} {T:Tb} {ops:Array Oper} {o:Oper}
end
end
section
open Go Go.ChangeShapes Go.WideShapes
theorem Z3o {α β:Type} {f g:α→Option β}:∀ {l:List α} {r:List β},l.mapM f=some r→(∀ x ∈ l,∀ y,f x=some y→g x=some y)→l.mapM g=some r
 | [],r,h,hr=>by simpa using h
 | a::as1,r,h,hr=>by
   rw [List.mapM_cons] at h ⊢
   cases ha:f a with
   | none=>simp [ha] at h
   | some b=>
     cases has:as1.mapM f with
     | none=>simp [ha,has] at h
     | some bs=>
       simp [ha,has] at h
       subst h
       rw [hr a (by simp) b ha,Z3o has fun x hx y hy=>hr x (by simp [hx]) y hy]
       rfl
theorem Zch {α β:Type} {f:α→Option β}:∀ {l:List α} {r:List β},l.mapM f=some r→∀ {x},x ∈ l→∃ y,f x=some y
 | [],r,h,x,hx=>by simp at hx
 | a::as1,r,h,x,hx=>by
   rw [List.mapM_cons] at h
   cases ha:f a with
   | none=>simp [ha] at h
   | some b=>
     cases has:as1.mapM f with
     | none=>simp [ha,has] at h
     | some bs=>
       rcases List.mem_cons.1 hx with rfl | hx
       ·exact ⟨b,ha⟩
       ·exact Zch has hx
def Kept (w w':World):Prop:=∀ b,b < w.heap.size→w'.heap[b]?=w.heap[b]?
section
variable {H:Type} {enc:TypeId×Value→H} {P:Program} {w w':World} {base:Nat} {sp sp':Nat→Bool} {held:Bool}
theorem Kept.cell (hk:Kept w w') {a:Addr} {v:Value} (h:w.cell? a=some v):w'.cell? a=some v:=by
 have hb:=World.block_lt_of_cell? w _ h
 have:=hk a.block hb
 unfold World.cell? at h ⊢
 rw [this]
 exact h
theorem Kept.cells (hk:Kept w w') {a:Addr} {n:Nat} {cs:List Value} (h:w.cells? base a n=some cs):w'.cells? base a n=some cs:=by
 unfold World.cells? at h ⊢
 split at h
 ·rename_i hb
  rw [if_pos hb]
  exact Z3o h fun i _ y hy=>hk.cell hy
 ·cases h
def CompsOk (P:Program) (S:TypeId→Prop) (t:TypeId):Prop:=match P.underlying t with
 | some (.pointer e)=>S e
 | some (.slice e)=>S e∧0 < P.cellsOf e
 | some (.struct fs)=>∀ f ∈ fs.toList,S f.type
 | some (.array _ e)=>S e
 | some (.map _ e)=>S e
 | _=>True
def Zek (P:Program) (n:Nat) (t:TypeId):Bool:=match P.underlying t with
 | some (.pointer e)=>Nat.blt e n
 | some (.slice e)=>Nat.blt e n&&Nat.blt 0 (P.cellsOf e)
 | some (.struct fs)=>fs.toList.all fun f=>Nat.blt f.type n
 | some (.array _ e)=>Nat.blt e n
 | some (.map _ e)=>Nat.blt e n
 | _=>true
theorem compsOk_of {P:Program} {n:Nat} (h:((List.range n).all (Zek P n))=true):∀ t,t < n→CompsOk P (· < n) t:=by
 intro t ht
 have:=List.all_eq_true.1 h t (List.mem_range.2 ht)
 unfold Zek at this
 unfold CompsOk
 split <;> rename_i hu <;> first | trivial | (rw [hu] at this;simp only at this)
 ·exact Nat.le_of_ble_eq_true this
 ·rw [Bool.and_eq_true] at this
  exact ⟨Nat.le_of_ble_eq_true this.1,Nat.le_of_ble_eq_true this.2⟩
 ·intro f hf
  exact Nat.le_of_ble_eq_true (List.all_eq_true.1 this f hf)
 ·exact Nat.le_of_ble_eq_true this
 ·exact Nat.le_of_ble_eq_true this
theorem Z9K {S:TypeId→Prop} {r r':TypeId→List Value→Option (DataW H×List MemPlace)} (hk:Kept w w') (hsp:∀ b,b < w.heap.size→sp' b=true) (hz:∀ t,S t→CompsOk P S t)
 (hr:∀ t,S t→∀ cs x,r t cs=some x→r' t cs=some x) {t:TypeId} (hS:S t) {cs:List Value} {x:DataW H×List MemPlace}
 (h:DataW.trodStep enc P w base (fun _=>true) true r t cs=some x):DataW.trodStep enc P w' base sp' true r' t cs=some x:=by
 have hcp:=hz t hS
 unfold CompsOk at hcp
 unfold DataW.trodStep at h ⊢
 split at h
 case h_1=>exact h
 case h_2=>exact h
 case h_3=>exact h
 case h_4=>exact h
 case h_5=>exact h
 case h_6 e a ht=>
  rw [ht] at hcp
  simp only [Option.map_eq_some_iff,Option.bind_eq_some_iff] at h ⊢
  obtain ⟨y,⟨cs',hc,hy⟩,rfl⟩:=h
  exact ⟨y,⟨cs',hk.cells hc,hr _ hcp _ _ hy⟩,rfl⟩
 case h_7=>exact h
 case h_8 e a len cap ht=>
  rw [ht] at hcp
  simp only at h ⊢
  split at h
  ·rename_i hc
   rw [if_pos hc]
   simp only [Option.map_eq_some_iff,Option.bind_eq_some_iff] at h ⊢
   obtain ⟨elems,he,rest,hrest,rfl⟩:=h
   have one:∀ i y,(w.cells? base (a.add (i * P.cellsOf e)) (P.cellsOf e)).bind (r e)=some y→(w'.cells? base (a.add (i * P.cellsOf e)) (P.cellsOf e)).bind (r' e)=some y:=fun i y hy=>by
    simp only [Option.bind_eq_some_iff] at hy ⊢
    obtain ⟨cs',hc',hy'⟩:=hy
    exact ⟨cs',hk.cells hc',hr _ hcp.1 _ _ hy'⟩
   refine ⟨elems,Z3o he fun i _ y hy=>one i y hy,rest,?_,rfl⟩
   by_cases hcap:cap - len=0
   ·rw [hcap] at hrest ⊢
    simp only [List.range_zero,List.mapM_nil] at hrest ⊢
    revert hrest
    cases sp' a.block <;> simp
   ·rw [if_pos trivial] at hrest
    obtain ⟨y,hy⟩:=Zch hrest (List.mem_range.2 (Nat.pos_of_ne_zero hcap))
    simp only [Option.bind_eq_some_iff] at hy
    obtain ⟨cs',hc',_⟩:=hy
    have hb:(a.add ((len+0) * P.cellsOf e)).block < w.heap.size:=World.cells?_block hc' hcp.2
    have hb:a.block < w.heap.size:=by
     have e1:(a.add ((len+0) * P.cellsOf e)).block=a.block:=by unfold Addr.add;split <;> rfl
     rw [← e1];exact hb
    rw [if_pos (hsp _ hb)]
    exact Z3o hrest fun i _ y hy=>one _ y hy
  ·cases h
 case h_9 fs ht=>
  rw [ht] at hcp
  split at h
  ·rename_i hc
   rw [if_pos hc]
   simp only [Option.map_eq_some_iff] at h ⊢
   obtain ⟨xs,hx,rfl⟩:=h
   exact ⟨xs,Z3o hx fun f hf y hy=>hr _ (hcp f hf) _ _ hy,rfl⟩
  ·cases h
 case h_10 n e ht=>
  rw [ht] at hcp
  split at h
  ·rename_i hc
   rw [if_pos hc]
   simp only [Option.map_eq_some_iff] at h ⊢
   obtain ⟨xs,hx,rfl⟩:=h
   exact ⟨xs,Z3o hx fun f _ y hy=>hr _ hcp _ _ hy,rfl⟩
  ·cases h
 case h_11=>exact h
 case h_12=>exact h
 case h_13=>exact h
 case h_14 k e b ht=>
  rw [ht] at hcp
  split at h
  ·rename_i es clock hb
   have hlt:b < w.heap.size:=by
    rcases Nat.lt_or_ge b w.heap.size with h1 | h1
    ·exact h1
    ·rw [Array.getElem?_eq_none h1] at hb;cases hb
   have hb':w'.heap[b]?=some (.map es clock):=by rw [hk b hlt];exact hb
   rw [hb']
   simp only
   split at h
   ·rename_i hc
    rw [if_pos hc]
    simp only [Option.bind_eq_some_iff] at h ⊢
    obtain ⟨entries,he,hd⟩:=h
    refine ⟨entries,Z3o he fun x _ y hy=>?_,hd⟩
    simp only [Option.bind_eq_some_iff] at hy ⊢
    obtain ⟨key,hk,hz⟩:=hy
    refine ⟨key,hk,?_⟩
    split at hz
    ·rename_i hf
     rw [if_pos hf]
     simp only [Option.map_eq_some_iff] at hz ⊢
     obtain ⟨q,hq,rfl⟩:=hz
     exact ⟨q,hr _ hcp _ _ hq,rfl⟩
    ·cases hz
   ·cases h
  ·cases h
 all_goals exact h
variable {S:TypeId→Prop} (hk:Kept w w') (hz:∀ t,S t→CompsOk P S t)
include hk hz
theorem Z9v (hsp:∀ b,b < w.heap.size→sp' b=true):∀ (n:Nat) (t:TypeId),S t→∀ (cs:List Value) (x:DataW H×List MemPlace),DataW.trod enc P w base (fun _=>true) true n t cs=some x→DataW.trod enc P w' base sp' true n t cs=some x:=by
 intro n
 induction n with
 | zero=>intro t _ cs x h;simp [DataW.trod] at h
 | succ n ih=>
   intro t hS cs x h
   rw [DataW.trod_step] at h ⊢
   exact Z9K hk hsp hz ih hS h
theorem Z4s (hsp:∀ b,b < w.heap.size→sp' b=true):∀ {ts:List TypeId} {vs:List Value} {ds:List (DataW H)} {ps:List MemPlace},(∀ t ∈ ts,S t) →
 DataW.TrodAll enc P w base (fun _=>true) true ts vs ds ps→DataW.TrodAll enc P w' base sp' true ts vs ds ps
 | [],[],[],_,_,h=>h
 | _::_,_::_,_::_,_,hS,⟨p,q,⟨n,h⟩,hs,e⟩=>⟨p,q,⟨n,Z9v hk hz hsp n _ (hS _ (List.mem_cons_self ..)) _ _ h⟩,Z4s hsp (fun t ht=>hS t (List.mem_cons_of_mem _ ht)) hs,e⟩
theorem Z3O (hsp:∀ b,b < w.heap.size→sp' b=true) (hv:∀ n cs,w.var? P n=some cs→w'.var? P n=some cs):∀ {ns:List String} {ds:List (DataW H)} {ps:List MemPlace},(∀ n ∈ ns,∀ g t,P.globalNamed n=some g→(P.globals[g]?).map (·.type)=some t→S t) →
 DataW.TrodVars enc P w (fun _=>true) ns ds ps→DataW.TrodVars enc P w' sp' ns ds ps
 | [],[],_,_,h=>h
 | n::_,_::_,_,hS,⟨g,t,cs,fuel,p,q,h1,h2,h3,h4,hs,e⟩=>
   ⟨g,t,cs,fuel,p,q,h1,h2,hv _ _ h3,Z9v hk hz hsp _ _ (hS n (List.mem_cons_self ..) g t h1 h2) _ _ h4,Z3O hsp hv (fun n hn=>hS n (List.mem_cons_of_mem _ hn)) hs,e⟩
omit hz in
theorem Kept.var {n:String} {cs:Array Value} (h:w.var? P n=some cs):w'.var? P n=some cs:=by
 unfold World.var? at h ⊢
 cases hg:P.globalNamed n with
 | none=>rw [hg] at h;cases h
 | some g=>
   rw [hg] at h
   simp only [Option.bind_some] at h ⊢
   rcases Nat.lt_or_ge g w.heap.size with h1 | h1
   ·rw [hk g h1];exact h
   ·rw [Array.getElem?_eq_none h1] at h;cases h
omit hz in
theorem Kept.noneFrozen {ps:List MemPlace} (hl:∀ p ∈ ps,p.block < w.heap.size) (h:w.noneFrozen ps):w'.noneFrozen ps:=by
 intro b off hp
 have h1:=h b off hp
 have h2:=hl _ hp
 unfold World.frozen? at h1 ⊢
 rw [hk b h2]
 exact h1
theorem post_kept {f:Func} {s:ChangeSpec} {apart fresh handsOn again:Bool} {args:Array Value} {v:Value} {ds gs:List (DataW H)} {before:List MemPlace} {res:List (DataW H)}
 (hS:∀ t ∈ f.params.toList,S t) (hSv:∀ n ∈ s.vars,∀ g t,P.globalNamed n=some g→(P.globals[g]?).map (·.type)=some t→S t)
 (hW:DataW.Whole enc P f.params.toList s.vars apart w args.toList ds gs before) (hos:w'.os=w.os) (hout:w'.output=w.output)
 (hr:(s.fn H (ds++gs)).results=res) (ha:(s.fn H (ds++gs)).args=ds) (hvv:(s.fn H (ds++gs)).vars=gs)
 (hres:∀ (b:Nat) (sp:Nat→Bool) (hd:Bool),DataW.TrodAll enc P w' b sp hd f.resultTypes.toList (v.resultList f.resultTypes.size) res [])
 (hok:∀ (j:Nat) (t:TypeId) (r:Value),f.resultTypes[j]?=some t→(v.resultList f.resultTypes.size)[j]?=some r→Value.okWide P w' .any 0 t r) :
 s.post enc P f apart fresh handsOn again w args v w':=by
 have hlt:=hW.lt
 have hW0:=hW
 obtain ⟨p,q,h1,h2,rfl,h4,h5⟩:=hW
 have hsp:∀ b,b < w.heap.size→(fun b=>decide (b < w.heap.size)) b=true:=fun b hb=>by simpa using hb
 refine ⟨ds,gs,p++q,[],p,q,hW0,by rw [hr];exact hres _ _ _,by rw [ha];exact Z4s hk hz hsp hS h1,by rw [hvv];exact Z3O hk hz hsp (fun n cs=>hk.var) hSv h2,⟨hos,hout,fun i hi=>?_⟩,fun _=>⟨hok,_,_,([]++p)++q,⟨[]++p,q,trodAll_append (Z4s hk hz (fun _ _=>rfl) hS h1) (hres _ _ _),Z3O hk hz (fun _ _=>rfl) (fun n cs=>hk.var) hSv h2,rfl,?_,?_⟩,?_⟩⟩
 ·rw [hk i hi]
  cases w.heap[i]? with
  | none=>rfl
  | some o=>cases o <;> simp
 ·simpa using hk.noneFrozen hlt h4
 ·simpa using h5
 ·intro p hp _
  simpa using hp
end
end
section
open Go Go.ChangeShapes Go.WideShapes Go.Deep
section
variable {P:Program}
theorem Ctr.calls {f:FuncId} {fn:Func} {c:Code} (hf:P.funcs[f]?=some fn) (hb:fn.body=some c) (hnm:(fn.name == "runtime.NumGoroutine")=false) {args:List SV} {H:List SB} {K:SV→List SB→Prop} (h:Ctr P f args H K)
 {C:Fr} {E:Env} {m:Mem} {w:World} (hr:Rel E C m H w) (ho:OkA m (vers H) args) :
 Calls P f (denL E args).toArray w (fun e w'=>∃ v,e=.returned v∧∃ r H' E' m',v=den E' r∧K r H'∧(Ok m' (vers H') r∧live r=true)∧Ext E m (vers H) E' m' (vers H')∧Rel E' C m' H' w'):=by
 have h1:=h.out C E m w hr ho
 have hrun:(callFunc f (denL E args).toArray).run P w=.ok (.enter f (denL E args).toArray) w:=by
  have h1:fn.name ≠ "runtime.NumGoroutine":=by simpa using hnm
  simp [callFunc,hf,h1,hb]
 unfold Z2T at h1
 rw [hrun] at h1
 exact h1
def Z24 (w:World) (S:Nat→Bool):Mem:=fun b=>if S b then w.heap[b]? else none
def frOf (w:World) (S:Nat→Bool):Fr:=⟨w.os,w.tape,w.output,fun b=>if S b then none else w.heap[b]?,w.drawn⟩
def TabsIn (w:World):Prop:=TbOk fun b=>w.heap[b]?
def Zaf (b:Nat):Bool:=(tabs b).isSome
theorem TabsIn.mem {w:World} (hT:TabsIn w) {S:Nat→Bool} (hS:∀ b,Zaf b=true→S b=true):TbOk (Z24 w S):=fun g v hg=>by
 have:=hT g v hg
 have hs:S g=true:=hS g (by simp [Zaf,hg])
 cases v with
 | ints k zs=>obtain ⟨t,fr,h1⟩:=this;exact ⟨t,fr,by unfold Z24;rw [hs];exact h1⟩
 | ifc=>obtain ⟨tt,v,t,fr,h1⟩:=this;exact ⟨tt,v,t,fr,by unfold Z24;rw [hs];exact h1⟩
 | anyI k=>obtain ⟨n,arr,t,fr,h1,h2⟩:=this;exact ⟨n,arr,t,fr,by unfold Z24;rw [hs];exact h1,h2⟩
theorem Zd7 {w:World} {S S':Nat→Bool} (h:∀ b,S b=true→S' b=true):∀ b o,Z24 w S b=some o→Z24 w S' b=some o:=fun b o hb=>by
 unfold Z24 at hb ⊢
 split at hb
 ·rename_i hs;rw [if_pos (h b hs)];exact hb
 ·cases hb
theorem rel_of (w:World) (S:Nat→Bool) (E:Env) (hT:TabsIn w) (hS:∀ b,Zaf b=true→S b=true):Rel E (frOf w S) (Z24 w S) [] w:={
 os:=rfl
 tape:=rfl
 output:=⟨rfl,DrOk.refl _⟩
 im:=fun b o h=>by
  unfold Z24 at h
  split at h
  ·exact h
  ·cases h
 fr:=fun b o h=>by
  simp only [frOf] at h
  split at h
  ·cases h
  ·exact h
 mf:=⟨fun b o h=>by
  simp only [frOf] at h
  unfold Z24
  split at h
  ·cases h
  ·rename_i hs;rw [if_neg hs],hT.mem hS⟩
 bl:=fun k B h=>by simp at h
 nn:=fun k v h hv=>by
  exfalso
  unfold Vle at h
  simp [vers] at h
 sp:=fun k b ⟨B,h,_⟩=>by simp at h
 inj:=fun j k b ⟨B,h,_⟩=>by simp at h }
theorem Rel.keptOf {w w':World} {S:Nat→Bool} {E:Env} {m:Mem} {H:List SB} (hm:∀ b o,Z24 w S b=some o→m b=some o) (h:Rel E (frOf w S) m H w'):Kept w w'∧w'.os=w.os∧w'.output=w.output:=by
 refine ⟨fun b hb=>?_,h.os,h.output.1⟩
 have hg:w.heap[b]?=some w.heap[b]:=Array.getElem?_eq_getElem hb
 cases hs:S b with
 | true=>
   have:=h.im b _ (hm b w.heap[b] (by unfold Z24;rw [hs];exact hg))
   rw [this,hg]
 | false=>
   have:=h.fr b w.heap[b] (by simp only [frOf,hs];exact hg)
   rw [this,hg]
theorem law_callsM {f:FuncId} {fn:Func} {c:Code} (hf:P.funcs[f]?=some fn) (hb:fn.body=some c) (hnm:(fn.name == "runtime.NumGoroutine")=false) {args:List SV} (h:CtrV P f args (.b true))
 (w:World) (hT:TabsIn w) (S:Nat→Bool) (ho:OkA (Z24 w S) [] args) {vs:Array Value} (hvs:vs=(denL (fun _ _=>none) args).toArray) :
 Calls P f vs w (fun e w'=>e=.returned (.bool true)∧Kept w w'∧w'.os=w.os∧w'.output=w.output):=by
 subst hvs
 refine (h.calls hf hb hnm (rel_of w (fun b=>S b||Zaf b) _ hT (fun b h=>by simp [h])) (OkA.mono (Zd7 fun b h=>by simp [h]) _ _ _ (fun _ _ h=>h) ho)).mono fun e w' he=>?_
 obtain ⟨v,rfl,r,H',E',m',rfl,⟨rfl,rfl⟩,_,hx,hrel⟩:=he
 exact ⟨rfl,hrel.keptOf hx.mm⟩
end
section
variable {H:Type} {enc:TypeId×Value→H} {P:Program} {w:World} {base:Nat} {spare:Nat→Bool} {held:Bool}
end
end
theorem Zbh {x:Int} (h1 : -9223372036854775808≤x) (h2:x≤9223372036854775807):IntKind.i64.wrap x=x:=IntWalk.i64_in x ⟨h1,h2⟩
theorem Joins.nil {new:List SV}:Joins [] new new:=⟨fun E=>rfl,fun m V _ h=>h⟩
structure Cn where
 k:Int
 t:Int
 r:Int
 l:Int
 v:Int
 deriving DecidableEq
def cn0:Cn:=⟨0,0,0,0,0⟩
def cenc (c:Cn):List SV:=[.i .i64 c.k,.i .i64 c.t,.i .i64 c.r,.i .i64 c.l,.i .i64 c.v]
def Zu (c:Cn):Int:=
 if c.k=1 then (if c.l=0∧0≤c.t∧c.t < 3∧0≤c.r∧c.r < 8 then 0 else -1)
 else if c.k=2 then (if c.t=0∧c.r=0∧0≤c.l∧c.l < 3 then 0 else -1)
 else if c.k=3 then (if c.t=0∧c.r=0∧c.l=0∧c.v=0 then 1 else -1)
 else if c.k=4∨c.k=5 then (if c.t=0∧c.r=0∧c.l=0∧c.v=0 then 2 else -1)
 else -1
theorem Zel (c:Cn) : -1≤Zu c∧Zu c≤2:=by
 unfold Zu
 repeat' split
 all_goals omega
def nAt (cs:List Cn):Nat→Int
 | 0=>0
 | i+1=>nAt cs i+(1 - Zu (cs.getD i cn0))
def okAt (cs:List Cn) (i:Nat):Prop:=∀ j,j < i→0≤Zu (cs.getD j cn0)∧Zu (cs.getD j cn0)≤nAt cs j
def Z8n (cs:List Cn):Prop:=(1≤cs.length∧cs.length≤32)∧okAt cs cs.length∧nAt cs cs.length=1
open Classical in
noncomputable def ZP (cs:List Cn):Bool:=decide (Z8n cs)
theorem Zem {cs:List Cn} {i:Nat} (h:okAt cs i) (h1:0≤Zu (cs.getD i cn0)) (h2:Zu (cs.getD i cn0)≤nAt cs i):okAt cs (i+1):=by
 intro j hj
 rcases Nat.lt_succ_iff_lt_or_eq.1 hj with hj | rfl
 ·exact h j hj
 ·exact ⟨h1,h2⟩
theorem Zen {cs:List Cn}:∀ {i:Nat},okAt cs i→0≤nAt cs i∧nAt cs i≤i∧(0 < i→1≤nAt cs i)
 | 0,_=>by simp [nAt]
 | i+1,h=>by
   have ih:=Zen (cs:=cs) (i:=i) fun j hj=>h j (by omega)
   have h1:=h i (by omega)
   simp only [nAt]
   omega
end SX
end Go.Proofs.YtdddpbmcoimgdaaGreatDoor
set_option maxRecDepth 100000
namespace Go.Proofs
open Go.Shelf
def Z9L:Go.Shelf.Ren:=⟨fun | 171=>219 | 243=>237 | 246=>243 | 283=>201 | 284=>202 | 285=>203 | 286=>204 | 129=>226 | 317=>225 | 318=>227 | 319=>228 | 320=>229 | 337=>239 | 338=>240 | n=>n,fun | 3=>3 | 9=>9 | 2=>2 | 4=>4 | 171=>219 | 0=>0 | 53=>151 | 37=>117 | 5=>5 | 173=>222 | 212=>242 | 51=>224 | 20=>20 | 213=>243 | 46=>190 | 232=>274 | 233=>275 | n=>n,fun | 17=>3 | 18=>6 | 19=>7 | n=>n⟩
theorem Zer:Go.Proofs.LaysM.n171 Tryz.prog Z9L:={
 mixed:=by kernel_rfl
 f129:=Tryz.func226.trans (congrArg some (by kernel_rfl))
 f171:=Tryz.func219.trans (congrArg some (by kernel_rfl))
 f243:=Tryz.func237.trans (congrArg some (by kernel_rfl))
 f246:=Tryz.func243.trans (congrArg some (by kernel_rfl))
 f283:=Tryz.func201.trans (congrArg some (by kernel_rfl))
 f284:=Tryz.func202.trans (congrArg some (by kernel_rfl))
 f285:=Tryz.func203.trans (congrArg some (by kernel_rfl))
 f286:=Tryz.func204.trans (congrArg some (by kernel_rfl))
 f317:=Tryz.func225.trans (congrArg some (by kernel_rfl))
 f318:=Tryz.func227.trans (congrArg some (by kernel_rfl))
 f319:=Tryz.func228.trans (congrArg some (by kernel_rfl))
 f320:=Tryz.func229.trans (congrArg some (by kernel_rfl))
 f337:=Tryz.func239.trans (congrArg some (by kernel_rfl))
 f338:=Tryz.func240.trans (congrArg some (by kernel_rfl))
 t0:=Tryz.underlying0
 a0:=Tryz.isAgg0
 z0:=Tryz.sizeOf0
 v0:=Tryz.zeroValue0
 t2:=Tryz.underlying2
 a2:=Tryz.isAgg2
 z2:=Tryz.sizeOf2
 v2:=Tryz.zeroValue2
 t3:=Tryz.underlying3
 a3:=Tryz.isAgg3
 z3:=Tryz.sizeOf3
 v3:=Tryz.zeroValue3
 t4:=Tryz.underlying4
 a4:=Tryz.isAgg4
 z4:=Tryz.sizeOf4
 v4:=Tryz.zeroValue4
 t5:=Tryz.underlying5
 a5:=Tryz.isAgg5
 z5:=Tryz.sizeOf5
 v5:=Tryz.zeroValue5
 t9:=Tryz.underlying9
 a9:=Tryz.isAgg9
 z9:=Tryz.sizeOf9
 v9:=Tryz.zeroValue9
 t20:=Tryz.underlying20
 a20:=Tryz.isAgg20
 z20:=Tryz.sizeOf20
 v20:=Tryz.zeroValue20
 t37:=Tryz.underlying117
 a37:=Tryz.isAgg117
 z37:=Tryz.sizeOf117
 v37:=Tryz.zeroValue117
 t46:=Tryz.underlying190
 a46:=Tryz.isAgg190
 z46:=Tryz.sizeOf190
 v46:=Tryz.zeroValue190
 t51:=Tryz.underlying224
 a51:=Tryz.isAgg224
 z51:=Tryz.sizeOf224
 v51:=Tryz.zeroValue224
 t53:=Tryz.underlying151
 a53:=Tryz.isAgg151
 z53:=Tryz.sizeOf151
 v53:=Tryz.zeroValue151
 t171:=Tryz.underlying219
 a171:=Tryz.isAgg219
 z171:=Tryz.sizeOf219
 v171:=Tryz.zeroValue219
 t173:=Tryz.underlying222
 a173:=Tryz.isAgg222
 z173:=Tryz.sizeOf222
 v173:=Tryz.zeroValue222
 t212:=Tryz.underlying242
 a212:=Tryz.isAgg242
 z212:=Tryz.sizeOf242
 v212:=Tryz.zeroValue242
 t213:=Tryz.underlying243
 a213:=Tryz.isAgg243
 z213:=Tryz.sizeOf243
 t232:=Tryz.underlying274
 a232:=Tryz.isAgg274
 z232:=Tryz.sizeOf274
 v232:=Tryz.zeroValue274
 t233:=Tryz.underlying275
 a233:=Tryz.isAgg275
 z233:=Tryz.sizeOf275
 v233:=Tryz.zeroValue275
 g17:=by kernel_rfl
 g18:=by kernel_rfl
 g19:=by kernel_rfl
 i0:=by kernel_rfl
 i2:=by kernel_rfl
 i3:=by kernel_rfl
 i4:=by kernel_rfl
 i5:=by kernel_rfl
 i9:=by kernel_rfl
 i20:=by kernel_rfl
 i37:=by kernel_rfl
 i46:=by kernel_rfl
 i51:=by kernel_rfl
 i53:=by kernel_rfl
 i171:=by kernel_rfl
 i173:=by kernel_rfl
 i212:=by kernel_rfl
 i232:=by kernel_rfl
 i233:=by kernel_rfl
 m17:=by kernel_rfl
 m18:=by kernel_rfl
 m19:=by kernel_rfl }
end Go.Proofs
namespace Go.Proofs.YtdddpbmcoimgdaaGreatDoor
namespace SX
open Go Go.Proofs
section
open Go Go.ChangeShapes Go.WideShapes
def LKv:LK→Value→Prop
 | .i k,v=>∃ n,v=.int k n∧(Lit.int k n).wf=true
 | .b,v=>∃ b,v=.bool b
 | .s,v=>∃ s:ByteArray,v=.string s∧s.size≤maxLen
def LKs:List LK→List Value→Prop
 | [],[]=>True
 | k::ls,v::cs=>LKv k v∧LKs ls cs
 | _,_=>False
theorem LKs.app:∀ {ls rs:List LK} {cs ds:List Value},LKs ls cs→LKs rs ds→LKs (ls++rs) (cs++ds)
 | [],rs,[],ds,_,h=>h
 | k::ls,rs,v::cs,ds,h,h'=>by simp only [LKs,List.cons_append] at h ⊢;exact ⟨h.1,LKs.app h.2 h'⟩
 | [],_,_::_,_,h,_=>h.elim
 | _::_,_,[],_,h,_=>h.elim
theorem Zci {ls:List LK} {m:Nat} (hm:ls.length=m):∀ (n:Nat) (cs:List Value),cs.length=n * m→(∀ i,i < n→LKs ls ((cs.drop (i * m)).take m))→LKs (rep n ls) cs
 | 0,cs,hl,_=>by
   have:cs=[]:=List.eq_nil_of_length_eq_zero (by omega)
   subst this;simp [rep,LKs]
 | n+1,cs,hl,h=>by
   have h0:=h 0 (by omega)
   rw [Nat.zero_mul,List.drop_zero] at h0
   have h1:=Zci hm n (cs.drop m) (by rw [List.length_drop,hl,Nat.succ_mul];omega) fun i hi=>by
    have:=h (i+1) (by omega)
    rw [List.drop_drop,show m+i * m=(i+1) * m by rw [Nat.succ_mul,Nat.add_comm]]
    exact this
   have:=h0.app h1
   rw [List.take_append_drop] at this
   simpa only [rep] using this
section
variable {H:Type} {enc:TypeId×Value→H} {P:Program} {w:World} {base:Nat} {spare:Nat→Bool} {held:Bool}
mutual
theorem trod_flat:∀ (f:Nat) (t:TypeId) (ls:List LK),shape P f t=some ls→P.cellsOf t=ls.length→∀ (fuel:Nat) (cs:List Value) (x:DataW H×List MemPlace),DataW.trod enc P w base spare held fuel t cs=some x→LKs ls cs
 | 0,t,ls,h,_,_,_,_,_=>by simp [shape] at h
 | f+1,t,ls,h,hc,fuel,cs,x,hx=>by
   unfold shape at h
   cases hu:P.underlying t with
   | none=>simp [hu] at h
   | some d=>
     rw [hu] at h
     cases d <;> simp only at h <;> try (cases h;done)
     case bool=>
      cases h
      obtain ⟨b,rfl,_⟩:=DataW.trod_bool hu hx
      exact ⟨⟨b,rfl⟩,trivial⟩
     case int k=>
      cases h
      obtain ⟨n,rfl,_,hw⟩:=DataW.trod_int hu hx
      exact ⟨⟨n,rfl,hw⟩,trivial⟩
     case string=>
      cases h
      obtain ⟨s,rfl,_,hw⟩:=DataW.trod_string hu hx
      exact ⟨⟨s,rfl,hw⟩,trivial⟩
     case struct fs=>
      cases hsh:P.stoodInHeld t with
      | true=>rw [hsh] at h;cases h
      | false=>
        rw [hsh] at h
        simp only [cond_false] at h
        obtain ⟨xs,n,rfl,_,hl,hxl,hg⟩:=DataW.trod_struct hu hx
        have:=trod_flatF f 0 fs.toList ls h n cs (fun i fl hi=>by
         have hi':fs[i]?=some fl:=by simpa using hi
         have hlt:i < xs.length:=by
          rw [hxl]
          rcases Nat.lt_or_ge i fs.size with h | h
          ·exact h
          ·rw [Array.getElem?_eq_none h] at hi';cases hi'
         exact ⟨_,(hg i fl hi').trans (List.getElem?_eq_getElem hlt)⟩) (by omega)
        rw [List.drop_zero,List.take_of_length_le (by omega)] at this
        exact this
     case array n e=>
      cases hs:shape P f e with
      | none=>rw [hs] at h;cases h
      | some es=>
        rw [hs] at h
        simp only at h
        cases hb:Nat.beq (P.cellsOf e) es.length with
        | false=>rw [hb] at h;cases h
        | true=>
          rw [hb] at h
          simp only [cond_true,Option.some.injEq] at h
          subst h
          have hce:=Nat.eq_of_beq_eq_true hb
          obtain ⟨xs,m,rfl,_,hl,hxl,hg⟩:=DataW.trod_array hu hx
          refine Zci hce.symm n cs (by rw [hl,hc,Z5v,hce]) fun i hi=>?_
          have hlt:i < xs.length:=by omega
          exact trod_flat f e es hs hce m _ _ ((hg i hi).trans (List.getElem?_eq_getElem hlt))
theorem trod_flatF:∀ (f off:Nat) (fs:List Field) (ls:List LK),shapeF P f off fs=some ls→∀ (n:Nat) (cs:List Value),(∀ (i:Nat) (fl:Field),fs[i]?=some fl→∃ y,DataW.trod enc P w base spare held n fl.type ((cs.drop fl.offset).take (P.cellsOf fl.type))=some y)→off+ls.length≤cs.length→LKs ls ((cs.drop off).take ls.length)
 | f,off,[],ls,h,n,cs,_,_=>by
   unfold shapeF at h
   simp only [Option.some.injEq] at h
   subst h
   simp [LKs]
 | 0,off,_::_,ls,h,_,_,_,_=>by simp [shapeF] at h
 | f+1,off,x::r,ls,h,n,cs,hg,hl=>by
   unfold shapeF at h
   cases hc:(x.name == "_" || !(Nat.beq x.offset off)) with
   | true=>rw [hc] at h;cases h
   | false=>
     rw [hc] at h
     simp only [cond_false] at h
     simp only [Bool.or_eq_false_iff,Bool.not_eq_false'] at hc
     have hoff:=Nat.eq_of_beq_eq_true hc.2
     cases hs:shape P f x.type with
     | none=>rw [hs] at h;cases h
     | some es=>
       rw [hs] at h
       simp only at h
       cases hb:Nat.beq (P.cellsOf x.type) es.length with
       | false=>rw [hb] at h;cases h
       | true=>
         rw [hb] at h
         simp only [cond_true] at h
         have hce:=Nat.eq_of_beq_eq_true hb
         cases hr:shapeF P f (off+es.length) r with
         | none=>rw [hr] at h;cases h
         | some rs=>
           rw [hr] at h
           simp only [Option.some.injEq] at h
           subst h
           rw [List.length_append] at hl
           obtain ⟨y,hy⟩:=hg 0 x rfl
           have h1:=trod_flat f x.type es hs hce n _ _ hy
           rw [hoff,hce] at h1
           have h2:=trod_flatF f (off+es.length) r rs hr n cs (fun i fl hi=>hg (i+1) fl (by simpa using hi)) (by omega)
           have:=h1.app h2
           rw [← List.drop_drop,← List.take_add,← List.length_append] at this
           exact this
end
end
end
section
open Go Go.ChangeShapes Go.WideShapes Go.ChangeAt
section
variable {H:Type} {enc:TypeId×Value→H} {P:Program} {w:World} {base:Nat} {spare:Nat→Bool} {held:Bool}
end
end
theorem Z4t {P:Program} {w:World} {n:String} {d:DataW Unit}:∀ {l:List (String×DataW Unit)} {ps:List MemPlace},DataW.LaidVars P w l ps→(n,d) ∈ l →
 ∃ g t cs fuel p,P.globalNamed n=some g∧(P.globals[g]?).map (·.type)=some t∧w.var? P n=some cs∧DataW.trod (fun _=>()) P w 0 (fun _=>true) false fuel t cs.toList=some (d,p)
 | [],_,_,h=>by cases h
 | (n',d')::r,ps,hl,h=>by
   obtain ⟨g,t,cs,fuel,p,q,h1,h2,h3,h4,h5,_⟩:=hl
   rcases List.mem_cons.1 h with h | h
   ·cases h;exact ⟨g,t,cs,fuel,p,h1,h2,h3,h4⟩
   ·exact Z4t h5 h
theorem Z8T {P:Program} {l:List (String×DataW Unit)} {w:World} (hf:(l.filter fun x=>x.2.handleName?.isSome)=[]) (h:laidMetH P l w):laidMet P l w:=by
 unfold laidMetH at h
 rw [hf] at h
 exact h
theorem ZfZ {H:Type} {enc:TypeId×Value→H} {P:Program} {w:World} {base:Nat} {sp:Nat→Bool} {held:Bool} {fuel:Nat} {t:TypeId} {ms} {cs:List Value} {tn:String} {d:DataW H} {p:List MemPlace}
 (ht:P.underlying t=some (.interface ms)) (h:DataW.trod enc P w base sp held fuel t cs=some (.iface tn d,p)):∃ u v,cs=[.iface u v]:=by
 cases fuel with
 | zero=>simp [DataW.trod] at h
 | succ fuel=>
   unfold DataW.trod at h
   rw [ht] at h
   match cs,h with
   | [.iface u v],_=>exact ⟨u,v,rfl⟩
   | [.nilIface],h=>simp at h
   | [],h=>simp at h
   | _::_::_,h=>simp at h
   | [.int _ _],h | [.bool _],h | [.float _ _],h | [.string _],h | [.pointer _],h | [.slice _ _ _],h | [.agg _],h | [.map _],h | [.func _ _ _],h | [.nilFunc],h | [.tuple _],h | [.chan _],h=>simp at h
def TbRow (P:Program) (laid:List (String×DataW Unit)) (g:Nat):TbV→Prop
 | .ints k zs=>∃ n t N e,(n,Lib.tabData k zs) ∈ laid∧P.globalNamed n=some g∧(P.globals[g]?).map (·.type)=some t∧P.underlying t=some (.array N e)∧P.underlying e=some (.int k)∧P.cellsOf e=1∧P.cellsOf t=N
 | .ifc=>∃ n t ms tn d,(n,.iface tn d) ∈ laid∧P.globalNamed n=some g∧(P.globals[g]?).map (·.type)=some t∧P.underlying t=some (.interface ms)
 | .anyI _=>False
theorem Zes {P:Program} {w:World} {n:String} {g:Nat} {cs:Array Value} (hg:P.globalNamed n=some g) (h:w.var? P n=some cs):∃ t fr,w.heap[g]?=some (.cells cs t fr):=by
 unfold World.var? at h
 rw [hg] at h
 simp only [Option.bind_some] at h
 split at h
 ·rename_i c t fr hh;cases h;exact ⟨t,fr,hh⟩
 ·cases h
theorem Zet {P:Program} {laid:List (String×DataW Unit)} {w:World} (hf:(laid.filter fun x=>x.2.handleName?.isSome)=[]) (h:laidMetH P laid w) (hr:∀ g v,tabs g=some v→TbRow P laid g v∨TbAt (fun b=>w.heap[b]?) g v):TabsIn w:=by
 obtain ⟨ps,hl,_⟩:=Z8T hf h
 intro g v hg
 rcases hr g v hg with hv | hv
 rotate_left
 ·exact hv
 cases v with
 | ints k zs=>
   obtain ⟨n,t,N,e,hm,h1,h2,h3,h4,h5,h6⟩:=hv
   obtain ⟨g',t',cs,fuel,p,g1,g2,g3,g4⟩:=Z4t hl hm
   obtain rfl:=Option.some.inj (h1.symm.trans g1)
   obtain rfl:=Option.some.inj (h2.symm.trans g2)
   have:=Lib.cells_of_tab h3 h4 h5 h6 g4
   obtain ⟨t2,fr,hh⟩:=Zes h1 g3
   refine ⟨t2,fr,?_⟩
   show w.heap[g]?=_
   rw [hh,← this]
 | anyI k=>exact hv.elim
 | ifc=>
   obtain ⟨n,t,ms,tn,d,hm,h1,h2,h3⟩:=hv
   obtain ⟨g',t',cs,fuel,p,g1,g2,g3,g4⟩:=Z4t hl hm
   obtain rfl:=Option.some.inj (h1.symm.trans g1)
   obtain rfl:=Option.some.inj (h2.symm.trans g2)
   obtain ⟨u,v,hc⟩:=ZfZ h3 g4
   obtain ⟨t2,fr,hh⟩:=Zes h1 g3
   refine ⟨u,v,t2,fr,?_⟩
   show w.heap[g]?=_
   rw [hh]
   congr 2
   exact Array.toList_inj.1 (by simpa using hc)
theorem Zh3 {w:World} {g:Nat} {k:IntKind} (h:∃ m,w.cell? ⟨g,0,none⟩=some (.int k m)):TbAt (fun b=>w.heap[b]?) g (.anyI k):=by
 obtain ⟨m,hm⟩:=h
 unfold World.cell? at hm
 simp only at hm
 split at hm
 ·rename_i arr t fr hh
  exact ⟨m,arr,t,fr,hh,by simpa using hm⟩
 ·cases hm
section
open Go Go.ChangeShapes Go.WideShapes Go.ChangeAt Go.RowKit
variable {H:Type} {enc:TypeId×Value→H}
theorem returns_shaped {a:Assume} {C:Checked} {os:Os} {f:FuncId} {fn:Func} {s:ChangeSpec} {conds:List PathCond} {apart fresh handsOn again:Bool} {X:World→Array Value→Prop}
 (hX:∀ (w w':World) (args:Array Value),w.heap=w'.heap→X w args→X w' args)
 (own:ownKnob C.prog.godebug=none) (started:os.Started) (noInit:C.prog.inits.idxOf? f=none) (hfn:C.prog.funcs[f]?=some fn)
 (witness:∃ (w:World) (tape:Tape) (i:Input),w.os=os∧(w.forCall tape i).Shaped C.prog∧i.vars=[]∧Input.okWide C.prog (w.forCall tape i) .any w.heap.size f i ∧
  ((s.pre enc C.prog fn conds apart (w.forCall tape i).memory i.args∧X (w.forCall tape i).memory i.args)∧sizedMet enc C.prog fn (OpenSpec.ofChange s) apart (w.forCall tape i).memory i.args)∧a.holds C.prog (lone (Frame.enter C.prog f i.args .normal) [] (w.forCall tape i)))
 (contract:∀ (W:World) (base:Nat) (args:Array Value) (ds gs:List (DataW H)) (before:List MemPlace),
  (∀ (j:Nat) t v,fn.params[j]?=some t→args[j]?=some v→Value.okWide C.prog W .any base t v) →
  DataW.Whole enc C.prog fn.params.toList s.vars apart W args.toList ds gs before →
  (DataW.weightsEach C.prog (fn.params.toList++s.plain.varTypes C.prog) (ds++gs)).all (· ≤ reachBytes)=true→X W args→W.ShapedOpen C.prog →
  Calls C.prog f args W fun e W'=>∃ v,e=.returned v∧s.post enc C.prog fn apart fresh handsOn again W args v W') :
 ReturnsInHanded a C os f .any (fun w args=>(s.pre enc C.prog fn conds apart w args∧X w args)∧sizedMet enc C.prog fn (OpenSpec.ofChange s) apart w args) (s.post enc C.prog fn apart fresh handsOn again):=by
 refine returnsInHanded_of_calls own started noInit witness ?_
 intro w tape i _ hsh _ hok hpre hholds
 obtain ⟨_,_,_,fn',hfn',_,_,_,_,hval⟩:=hok
 have e:fn'=fn:=Option.some.inj (hfn'.symm.trans hfn)
 subst e
 obtain ⟨⟨⟨ds,gs,before,hw,hc⟩,hx⟩,hz⟩:=hpre
 have hw':=DataW.Whole.of_heap (w':=w.forCall tape i) (by rfl) hw
 refine (contract (w.forCall tape i) w.heap.size i.args ds gs before hval hw' (hz.weights hw) (hX _ _ _ (by rfl) hx) hsh).mono fun e W' ⟨v,he,hp⟩=>?_
 subst he
 exact ChangeSpec.post_blind hp
end
section
open Go Go.ChangeShapes Go.WideShapes
section
variable {H:Type} {enc:TypeId×Value→H} {P:Program} {w:World} {base:Nat} {spare:Nat→Bool} {held:Bool}
def memQ (w:World):Mem:=Z24 w fun _=>true
theorem Zh4 (w:World) (b:Nat):memQ w b=w.heap[b]?:=by unfold memQ Z24;simp
theorem Zg0 {t e:TypeId} (ht:P.underlying t=some (.slice e)) (hpos:0 < P.cellsOf e) {fuel:Nat} {c:List Value} {x:DataW H×List MemPlace} (h:DataW.trod enc P w base spare held fuel t c=some x) :
 ∃ (rows:List (List Value)) (a:Option Addr) (cap:Nat),c=[.slice a rows.length cap]∧rows.length≤cap∧cap≤maxLen∧(∀ row ∈ rows,row.length=P.cellsOf e∧∃ n y,DataW.trod enc P w base spare held n e row=some y) ∧
   (rows≠[]→∃ ad arr ty fr,a=some ad∧ad.spot=none∧w.heap[ad.block]?=some (.cells arr ty fr)∧∀ j row,rows[j]?=some row→∀ u c,row[u]?=some c→arr[ad.off+j * P.cellsOf e+u]?=some c):=by
 rcases DataW.trod_slice ht h with ⟨e1,_⟩ | ⟨a,l0,c0,elems,rest,n,rfl,e1,_,_,h1,h2,h3,h4,_⟩
 ·exact ⟨[],none,0,e1,Nat.le_refl _,Nat.zero_le _,fun row hr=>(by cases hr),fun h=>absurd rfl h⟩
 ·have hrow:∀ j,j < l0→∃ row y,w.cells? base (a.add (j * P.cellsOf e)) (P.cellsOf e)=some row∧DataW.trod enc P w base spare held n e row=some y:=fun j hj=>by
   have:=h4 j hj
   rw [List.getElem?_eq_getElem (by omega)] at this
   obtain ⟨row,q1,q2⟩:=Option.bind_eq_some_iff.1 this
   exact ⟨row,_,q1,q2⟩
  have hlen:∀ j row,w.cells? base (a.add (j * P.cellsOf e)) (P.cellsOf e)=some row→row.length=P.cellsOf e:=fun j row q1=>by
   unfold World.cells? at q1
   split at q1
   ·have hl:=mapM_some_length q1
    simpa using hl
   ·cases q1
  have hget:∀ j,j < l0→((List.range l0).map fun j=>(w.cells? base (a.add (j * P.cellsOf e)) (P.cellsOf e)).getD [])[j]?=some ((w.cells? base (a.add (j * P.cellsOf e)) (P.cellsOf e)).getD []):=fun j hj=>by
   rw [List.getElem?_map,List.getElem?_range hj];rfl
  have hcell:∀ j,j < l0→∀ u c,((w.cells? base (a.add (j * P.cellsOf e)) (P.cellsOf e)).getD [])[u]?=some c→u < P.cellsOf e∧w.cell? ((a.add (j * P.cellsOf e)).add u)=some c:=fun j hj u c hu=>by
   obtain ⟨row,y,q1,q2⟩:=hrow j hj
   rw [q1] at hu
   simp only [Option.getD_some] at hu
   unfold World.cells? at q1
   split at q1
   ·have hl:=mapM_some_length q1
    have hlt:u < row.length:=(List.getElem?_eq_some_iff.1 hu).1
    have hlt2:u < P.cellsOf e:=by simpa [hl] using hlt
    have:=mapM_some_get q1 u u (by simp [hlt2])
    exact ⟨hlt2,by rw [this,hu]⟩
   ·cases q1
  refine ⟨(List.range l0).map fun j=>(w.cells? base (a.add (j * P.cellsOf e)) (P.cellsOf e)).getD [],some a,c0,by simpa using e1,by simp;omega,by omega,fun row hr=>?_,fun hne=>?_⟩
  ·obtain ⟨j,hj,rfl⟩:=List.mem_map.1 hr
   obtain ⟨row,y,q1,q2⟩:=hrow j (by simpa using hj)
   rw [q1]
   exact ⟨hlen j row q1,n,y,q2⟩
  ·have hl0:0 < l0:=by
    rcases Nat.eq_zero_or_pos l0 with h | h
    ·subst h;exact absurd rfl hne
    ·exact h
   obtain ⟨row,y,q1,q2⟩:=hrow 0 hl0
   have hrl:=hlen 0 row q1
   have h00:=(hcell 0 hl0 0 (row[0]'(by omega)) (by rw [q1];simp)).2
   have ha0:a.add 0=a:=by simp [Addr.add]
   rw [Nat.zero_mul,ha0,ha0] at h00
   have hsp:=World.cell?_spot h00
   have hadd:∀ k,(a.add k).spot=none∧(a.add k).block=a.block∧(a.add k).off=a.off+k:=fun k=>by
    unfold Addr.add
    split
    ·rename_i h;subst h;exact ⟨hsp,rfl,rfl⟩
    ·exact ⟨rfl,rfl,rfl⟩
   have hadd2:∀ k u,(a.add k).add u=⟨a.block,a.off+k+u,none⟩:=fun k u=>by
    obtain ⟨g1,g2,g3⟩:=hadd k
    unfold Addr.add at g1 g2 g3 ⊢
    split
    ·rename_i h
     subst h
     simp only [Nat.add_zero]
     split
     ·rename_i h;subst h
      cases a;simp only at hsp;subst hsp;rfl
     ·rfl
    ·split
     ·rename_i h;subst h;simp
     ·rfl
   have h00':=h00
   unfold World.cell? at h00'
   split at h00'
   ·rename_i arr ty fr hblk
    refine ⟨a,arr,ty,fr,rfl,hsp,hblk,fun j row hj u c hu=>?_⟩
    have hjl:j < l0:=by have:=(List.getElem?_eq_some_iff.1 hj).1;simpa using this
    rw [hget j hjl] at hj
    cases hj
    have h5:=(hcell j hjl u c hu).2
    rw [hadd2] at h5
    unfold World.cell? at h5
    rw [hblk] at h5
    simp only [Option.isSome_none,Bool.false_eq_true,if_false] at h5
    exact h5
   ·cases h00'
theorem open_immQ {t e:TypeId} (ht:P.underlying t=some (.slice e)) {α:Type} (d:α) {n:Nat} (en:α→List SV) (hn:P.cellsOf e=n) (hpos:0 < n) (hw:∀ x,wdL (en x)=n) (Q:α→Prop)
 (hdec:∀ m row y,DataW.trod enc P w base spare held m e row=some y→row.length=n→∃ x,row=cellsL E0 (en x)∧OkL (memQ w) [] (en x)∧Q x) {fuel:Nat} {c:List Value} {x:DataW H×List MemPlace} (h:DataW.trod enc P w base spare held fuel t c=some x) :
 ∃ (xs:List α) (a:Option Addr) (cap:Nat),c=[.slice a xs.length cap]∧Ok (memQ w) [] (.imm α d n en xs a cap)∧cap≤maxLen∧∀ x ∈ xs,Q x:=by
 obtain ⟨rows,a,cap,rfl,h1,h2,h3,h4⟩:=Zg0 ht (by omega) h
 have hx:∃ xs:List α,(rows=xs.map fun x=>cellsL E0 (en x))∧∀ x ∈ xs,OkL (memQ w) [] (en x)∧Q x:=by
  clear h h4 h1
  induction rows with
  | nil=>exact ⟨[],rfl,fun x hx=>by cases hx⟩
  | cons row rows ih=>
    obtain ⟨xs,hxs,hq⟩:=ih fun r hr=>h3 r (List.mem_cons_of_mem _ hr)
    obtain ⟨hl,m,y,hy⟩:=h3 row List.mem_cons_self
    obtain ⟨x,hx,hok⟩:=hdec m row y hy (by omega)
    exact ⟨x::xs,by rw [hxs,hx];rfl,fun z hz=>by
     rcases List.mem_cons.1 hz with rfl | hz
     ·exact hok
     ·exact hq z hz⟩
 obtain ⟨xs,rfl,hq⟩:=hx
 rw [List.length_map] at *
 refine ⟨xs,a,cap,rfl,?_,h2,fun x hx=>(hq x hx).2⟩
 simp only [Ok]
 refine ⟨h1,fun hne=>?_,hw,fun j hj=>?_⟩
 ·obtain ⟨ad,arr,ty,fr,rfl,e2,e3,e4⟩:=h4 (by simpa using hne)
  refine ⟨ad,arr,ty,fr,rfl,e2,by rw [Zh4];exact e3,fun j hj u c hu=>?_⟩
  have:=e4 j (cellsL E0 (en (xs.getD j d))) (by
   rw [List.getElem?_map,List.getElem?_eq_getElem hj]
   simp [List.getD_eq_getElem?_getD,List.getElem?_eq_getElem hj]) u c hu
  rw [hn] at this
  exact this
 ·rw [List.getD_eq_getElem?_getD,List.getElem?_eq_getElem hj]
  exact (hq _ (List.getElem_mem hj)).1
end
end
end SX
end Go.Proofs.YtdddpbmcoimgdaaGreatDoor
set_option maxRecDepth 100000
namespace Go.Proofs
open Go.Shelf
def Z9M:Go.Shelf.Ren:=⟨fun | 143=>120 | 219=>142 | 217=>146 | 225=>165 | 224=>166 | 267=>167 | 266=>171 | 314=>205 | n=>n,fun | 9=>9 | 3=>3 | 4=>4 | 5=>5 | 46=>190 | 146=>225 | 51=>224 | n=>n,fun | 1=>0 | n=>n⟩
theorem Zev:Go.Proofs.Lays.n143 Tryz.prog Z9M:={
 mixed:=by kernel_rfl
 f143:=Tryz.func120.trans (congrArg some (by kernel_rfl))
 f217:=Tryz.func146.trans (congrArg some (by kernel_rfl))
 f219:=Tryz.func142.trans (congrArg some (by kernel_rfl))
 f224:=Tryz.func166.trans (congrArg some (by kernel_rfl))
 f225:=Tryz.func165.trans (congrArg some (by kernel_rfl))
 f266:=Tryz.func171.trans (congrArg some (by kernel_rfl))
 f267:=Tryz.func167.trans (congrArg some (by kernel_rfl))
 f314:=Tryz.func205.trans (congrArg some (by kernel_rfl))
 t3:=Tryz.underlying3
 a3:=Tryz.isAgg3
 z3:=Tryz.sizeOf3
 v3:=Tryz.zeroValue3
 t4:=Tryz.underlying4
 a4:=Tryz.isAgg4
 z4:=Tryz.sizeOf4
 v4:=Tryz.zeroValue4
 t5:=Tryz.underlying5
 a5:=Tryz.isAgg5
 z5:=Tryz.sizeOf5
 v5:=Tryz.zeroValue5
 t9:=Tryz.underlying9
 a9:=Tryz.isAgg9
 z9:=Tryz.sizeOf9
 v9:=Tryz.zeroValue9
 t46:=Tryz.underlying190
 a46:=Tryz.isAgg190
 z46:=Tryz.sizeOf190
 v46:=Tryz.zeroValue190
 t51:=Tryz.underlying224
 a51:=Tryz.isAgg224
 z51:=Tryz.sizeOf224
 v51:=Tryz.zeroValue224
 t146:=Tryz.underlying225
 a146:=Tryz.isAgg225
 z146:=Tryz.sizeOf225
 v146:=Tryz.zeroValue225
 g1:=by kernel_rfl }
end Go.Proofs
set_option maxRecDepth 100000
namespace Go.Proofs
open Go.Shelf
def Z9N:Go.Shelf.Ren:=⟨fun | 144=>144 | 143=>120 | 219=>142 | 217=>146 | 225=>165 | 224=>166 | 267=>167 | 266=>171 | 314=>205 | n=>n,fun | 9=>9 | 4=>4 | 3=>3 | 5=>5 | 46=>190 | 146=>225 | 51=>224 | n=>n,fun | 1=>0 | n=>n⟩
theorem Zew:Go.Proofs.Lays.n144 Tryz.prog Z9N:={
 mixed:=by kernel_rfl
 f143:=Tryz.func120.trans (congrArg some (by kernel_rfl))
 f144:=Tryz.func144.trans (congrArg some (by kernel_rfl))
 f217:=Tryz.func146.trans (congrArg some (by kernel_rfl))
 f219:=Tryz.func142.trans (congrArg some (by kernel_rfl))
 f224:=Tryz.func166.trans (congrArg some (by kernel_rfl))
 f225:=Tryz.func165.trans (congrArg some (by kernel_rfl))
 f266:=Tryz.func171.trans (congrArg some (by kernel_rfl))
 f267:=Tryz.func167.trans (congrArg some (by kernel_rfl))
 f314:=Tryz.func205.trans (congrArg some (by kernel_rfl))
 t3:=Tryz.underlying3
 a3:=Tryz.isAgg3
 z3:=Tryz.sizeOf3
 v3:=Tryz.zeroValue3
 t4:=Tryz.underlying4
 a4:=Tryz.isAgg4
 z4:=Tryz.sizeOf4
 v4:=Tryz.zeroValue4
 t5:=Tryz.underlying5
 a5:=Tryz.isAgg5
 z5:=Tryz.sizeOf5
 v5:=Tryz.zeroValue5
 t9:=Tryz.underlying9
 a9:=Tryz.isAgg9
 z9:=Tryz.sizeOf9
 v9:=Tryz.zeroValue9
 t46:=Tryz.underlying190
 a46:=Tryz.isAgg190
 z46:=Tryz.sizeOf190
 v46:=Tryz.zeroValue190
 t51:=Tryz.underlying224
 a51:=Tryz.isAgg224
 z51:=Tryz.sizeOf224
 v51:=Tryz.zeroValue224
 t146:=Tryz.underlying225
 a146:=Tryz.isAgg225
 z146:=Tryz.sizeOf225
 v146:=Tryz.zeroValue225
 g1:=by kernel_rfl }
end Go.Proofs
set_option maxRecDepth 100000
namespace Go.Proofs
open Go.Shelf
def Z9O:Go.Shelf.Ren:=⟨fun | 137=>127 | 217=>146 | 266=>171 | n=>n,fun | 9=>9 | 5=>5 | 3=>3 | n=>n,fun | n=>n⟩
theorem Zex:Go.Proofs.Lays.n137 Tryz.prog Z9O:={
 mixed:=by kernel_rfl
 f137:=Tryz.func127.trans (congrArg some (by kernel_rfl))
 f217:=Tryz.func146.trans (congrArg some (by kernel_rfl))
 f266:=Tryz.func171.trans (congrArg some (by kernel_rfl))
 t3:=Tryz.underlying3
 a3:=Tryz.isAgg3
 z3:=Tryz.sizeOf3
 v3:=Tryz.zeroValue3
 t5:=Tryz.underlying5
 a5:=Tryz.isAgg5
 z5:=Tryz.sizeOf5
 v5:=Tryz.zeroValue5
 t9:=Tryz.underlying9
 a9:=Tryz.isAgg9
 z9:=Tryz.sizeOf9
 v9:=Tryz.zeroValue9 }
end Go.Proofs
set_option maxRecDepth 100000
namespace Go.Proofs
open Go.Shelf
def Z9P:Go.Shelf.Ren:=⟨fun | 17=>170 | 21=>208 | 22=>209 | 23=>210 | 24=>211 | 25=>230 | 27=>219 | 26=>231 | 28=>237 | 29=>243 | 30=>201 | 31=>202 | 32=>203 | 33=>204 | 35=>226 | 34=>225 | 36=>227 | 37=>228 | 38=>229 | 39=>239 | 40=>240 | n=>n,fun | 9=>9 | 3=>3 | 24=>170 | 34=>227 | 4=>4 | 39=>229 | 44=>247 | 37=>117 | 0=>0 | 47=>267 | 50=>270 | 48=>268 | 2=>2 | 52=>219 | 22=>151 | 5=>5 | 55=>222 | 59=>242 | 60=>224 | 20=>20 | 61=>243 | 36=>190 | 65=>274 | 66=>275 | 67=>64 | n=>n,fun | 0=>4 | 1=>5 | 2=>3 | 3=>6 | 4=>7 | n=>n⟩
theorem Zey:Go.Proofs.LaysPu.n17 Tryz.prog Z9P:={
 mixed:=by kernel_rfl
 f17:=Tryz.func170.trans (congrArg some (by kernel_rfl))
 f21:=Tryz.func208.trans (congrArg some (by kernel_rfl))
 f22:=Tryz.func209.trans (congrArg some (by kernel_rfl))
 f23:=Tryz.func210.trans (congrArg some (by kernel_rfl))
 f24:=Tryz.func211.trans (congrArg some (by kernel_rfl))
 f25:=Tryz.func230.trans (congrArg some (by kernel_rfl))
 f26:=Tryz.func231.trans (congrArg some (by kernel_rfl))
 f27:=Tryz.func219.trans (congrArg some (by kernel_rfl))
 f28:=Tryz.func237.trans (congrArg some (by kernel_rfl))
 f29:=Tryz.func243.trans (congrArg some (by kernel_rfl))
 f30:=Tryz.func201.trans (congrArg some (by kernel_rfl))
 f31:=Tryz.func202.trans (congrArg some (by kernel_rfl))
 f32:=Tryz.func203.trans (congrArg some (by kernel_rfl))
 f33:=Tryz.func204.trans (congrArg some (by kernel_rfl))
 f34:=Tryz.func225.trans (congrArg some (by kernel_rfl))
 f35:=Tryz.func226.trans (congrArg some (by kernel_rfl))
 f36:=Tryz.func227.trans (congrArg some (by kernel_rfl))
 f37:=Tryz.func228.trans (congrArg some (by kernel_rfl))
 f38:=Tryz.func229.trans (congrArg some (by kernel_rfl))
 f39:=Tryz.func239.trans (congrArg some (by kernel_rfl))
 f40:=Tryz.func240.trans (congrArg some (by kernel_rfl))
 t0:=Tryz.underlying0
 a0:=Tryz.isAgg0
 z0:=Tryz.sizeOf0
 v0:=Tryz.zeroValue0
 i0:=by kernel_rfl
 t2:=Tryz.underlying2
 a2:=Tryz.isAgg2
 z2:=Tryz.sizeOf2
 v2:=Tryz.zeroValue2
 i2:=by kernel_rfl
 t3:=Tryz.underlying3
 a3:=Tryz.isAgg3
 z3:=Tryz.sizeOf3
 v3:=Tryz.zeroValue3
 i3:=by kernel_rfl
 t4:=Tryz.underlying4
 a4:=Tryz.isAgg4
 z4:=Tryz.sizeOf4
 v4:=Tryz.zeroValue4
 i4:=by kernel_rfl
 t5:=Tryz.underlying5
 a5:=Tryz.isAgg5
 z5:=Tryz.sizeOf5
 v5:=Tryz.zeroValue5
 i5:=by kernel_rfl
 t9:=Tryz.underlying9
 a9:=Tryz.isAgg9
 z9:=Tryz.sizeOf9
 v9:=Tryz.zeroValue9
 i9:=by kernel_rfl
 t20:=Tryz.underlying20
 a20:=Tryz.isAgg20
 z20:=Tryz.sizeOf20
 v20:=Tryz.zeroValue20
 i20:=by kernel_rfl
 t22:=Tryz.underlying151
 a22:=Tryz.isAgg151
 z22:=Tryz.sizeOf151
 v22:=Tryz.zeroValue151
 i22:=by kernel_rfl
 t24:=Tryz.underlying170
 a24:=Tryz.isAgg170
 z24:=Tryz.sizeOf170
 v24:=Tryz.zeroValue170
 i24:=by kernel_rfl
 t34:=Tryz.underlying227
 a34:=Tryz.isAgg227
 z34:=Tryz.sizeOf227
 v34:=Tryz.zeroValue227
 i34:=by kernel_rfl
 c34:=by kernel_rfl
 t36:=Tryz.underlying190
 a36:=Tryz.isAgg190
 z36:=Tryz.sizeOf190
 v36:=Tryz.zeroValue190
 i36:=by kernel_rfl
 t37:=Tryz.underlying117
 a37:=Tryz.isAgg117
 z37:=Tryz.sizeOf117
 v37:=Tryz.zeroValue117
 i37:=by kernel_rfl
 t39:=Tryz.underlying229
 a39:=Tryz.isAgg229
 z39:=Tryz.sizeOf229
 v39:=Tryz.zeroValue229
 i39:=by kernel_rfl
 t44:=Tryz.underlying247
 a44:=Tryz.isAgg247
 z44:=Tryz.sizeOf247
 v44:=Tryz.zeroValue247
 i44:=by kernel_rfl
 t47:=Tryz.underlying267
 a47:=Tryz.isAgg267
 z47:=Tryz.sizeOf267
 v47:=Tryz.zeroValue267
 i47:=by kernel_rfl
 t48:=Tryz.underlying268
 a48:=Tryz.isAgg268
 z48:=Tryz.sizeOf268
 v48:=Tryz.zeroValue268
 i48:=by kernel_rfl
 t50:=Tryz.underlying270
 a50:=Tryz.isAgg270
 z50:=Tryz.sizeOf270
 v50:=Tryz.zeroValue270
 i50:=by kernel_rfl
 t52:=Tryz.underlying219
 a52:=Tryz.isAgg219
 z52:=Tryz.sizeOf219
 v52:=Tryz.zeroValue219
 i52:=by kernel_rfl
 t55:=Tryz.underlying222
 a55:=Tryz.isAgg222
 z55:=Tryz.sizeOf222
 v55:=Tryz.zeroValue222
 i55:=by kernel_rfl
 t59:=Tryz.underlying242
 a59:=Tryz.isAgg242
 z59:=Tryz.sizeOf242
 v59:=Tryz.zeroValue242
 i59:=by kernel_rfl
 t60:=Tryz.underlying224
 a60:=Tryz.isAgg224
 z60:=Tryz.sizeOf224
 v60:=Tryz.zeroValue224
 i60:=by kernel_rfl
 t61:=Tryz.underlying243
 a61:=Tryz.isAgg243
 z61:=Tryz.sizeOf243
 t65:=Tryz.underlying274
 a65:=Tryz.isAgg274
 z65:=Tryz.sizeOf274
 v65:=Tryz.zeroValue274
 i65:=by kernel_rfl
 t66:=Tryz.underlying275
 a66:=Tryz.isAgg275
 z66:=Tryz.sizeOf275
 v66:=Tryz.zeroValue275
 i66:=by kernel_rfl
 t67:=Tryz.underlying64
 a67:=Tryz.isAgg64
 z67:=Tryz.sizeOf64
 v67:=Tryz.zeroValue64
 i67:=by kernel_rfl
 g0:=by kernel_rfl
 m0:=by kernel_rfl
 g1:=by kernel_rfl
 m1:=by kernel_rfl
 g2:=by kernel_rfl
 m2:=by kernel_rfl
 g3:=by kernel_rfl
 m3:=by kernel_rfl
 g4:=by kernel_rfl
 m4:=by kernel_rfl }
end Go.Proofs
set_option maxRecDepth 100000
namespace Go.Proofs
open Go.Shelf
def Z5i:Go.Shelf.Ren:=⟨fun | 156=>218 | 165=>234 | 166=>235 | 169=>236 | 240=>241 | 241=>242 | 276=>244 | 277=>245 | n=>n,fun | 31=>173 | 9=>9 | 3=>3 | 4=>4 | 0=>0 | 20=>20 | 72=>262 | 76=>264 | 70=>260 | 37=>117 | 75=>170 | 127=>267 | 164=>276 | 5=>5 | 80=>64 | n=>n,fun | n=>n⟩
theorem Zd8:Go.Proofs.Lays.n156 Tryz.prog Z5i:={
 mixed:=by kernel_rfl
 f156:=Tryz.func218.trans (congrArg some (by kernel_rfl))
 f165:=Tryz.func234.trans (congrArg some (by kernel_rfl))
 f166:=Tryz.func235.trans (congrArg some (by kernel_rfl))
 f169:=Tryz.func236.trans (congrArg some (by kernel_rfl))
 f240:=Tryz.func241.trans (congrArg some (by kernel_rfl))
 f241:=Tryz.func242.trans (congrArg some (by kernel_rfl))
 f276:=Tryz.func244.trans (congrArg some (by kernel_rfl))
 f277:=Tryz.func245.trans (congrArg some (by kernel_rfl))
 t0:=Tryz.underlying0
 a0:=Tryz.isAgg0
 z0:=Tryz.sizeOf0
 v0:=Tryz.zeroValue0
 t3:=Tryz.underlying3
 a3:=Tryz.isAgg3
 z3:=Tryz.sizeOf3
 v3:=Tryz.zeroValue3
 t4:=Tryz.underlying4
 a4:=Tryz.isAgg4
 z4:=Tryz.sizeOf4
 v4:=Tryz.zeroValue4
 t9:=Tryz.underlying9
 a9:=Tryz.isAgg9
 z9:=Tryz.sizeOf9
 v9:=Tryz.zeroValue9
 t20:=Tryz.underlying20
 a20:=Tryz.isAgg20
 z20:=Tryz.sizeOf20
 v20:=Tryz.zeroValue20
 t31:=Tryz.underlying173
 a31:=Tryz.isAgg173
 z31:=Tryz.sizeOf173
 v31:=Tryz.zeroValue173
 t37:=Tryz.underlying117
 a37:=Tryz.isAgg117
 z37:=Tryz.sizeOf117
 v37:=Tryz.zeroValue117
 t70:=Tryz.underlying260
 a70:=Tryz.isAgg260
 z70:=Tryz.sizeOf260
 v70:=Tryz.zeroValue260
 t72:=Tryz.underlying262
 a72:=Tryz.isAgg262
 z72:=Tryz.sizeOf262
 v72:=Tryz.zeroValue262
 t75:=Tryz.underlying170
 a75:=Tryz.isAgg170
 z75:=Tryz.sizeOf170
 v75:=Tryz.zeroValue170
 t76:=Tryz.underlying264
 a76:=Tryz.isAgg264
 z76:=Tryz.sizeOf264
 v76:=Tryz.zeroValue264
 t127:=Tryz.underlying267
 a127:=Tryz.isAgg267
 z127:=Tryz.sizeOf267
 v127:=Tryz.zeroValue267
 t164:=Tryz.underlying276
 a164:=Tryz.isAgg276
 z164:=Tryz.sizeOf276
 v164:=Tryz.zeroValue276 }
end Go.Proofs
namespace Go.Proofs.YtdddpbmcoimgdaaGreatDoor
namespace SX
open Go Go.Proofs
section
section
variable {P:Program} {T:Tb} {ops:Array Oper} {o:Oper}
end
end
section
open Go Go.Proofs Go.Sort
theorem Rel.tabs {E C m H w} (h:Rel E C m H w):TabsIn w:=h.mf.2.mono h.im
theorem Zg1 {P:Program} {w:World} {n:String} {g:Nat} {k:IntKind} {zs:List Int} (hT:TabsIn w) (hg:P.globalNamed n=some g) (ht:SX.tabs g=some (.ints k zs)):Lib.TabIs P w n k zs:=by
 obtain ⟨t,fr,h⟩:=hT g _ ht
 have h:w.heap[g]?=some (.cells (zs.map (.int k)).toArray t fr):=h
 unfold Lib.TabIs World.var?
 rw [hg]
 simp only [Option.bind_some,h]
theorem Rel.grown {E C m w} (h:Rel E C m [] w) (k:Nat) (os:Array Obj):Rel E C m [] (Sort.grow (w.drewN k) os):=by
 refine ⟨h.os,h.tape,⟨h.output.1,h.output.2.trans (Nat.le_add_right _ _)⟩,fun b o hb=>?_,fun b o hb=>?_,h.mf,fun k B hB=>by simp at hB,fun k v hv=>(Z1I hv).elim,?_,?_⟩
 ·have h1:=h.im b o hb
  show (w.heap++os)[b]?=some o
  rw [Array.getElem?_append_left (Zw h1)];exact h1
 ·have h1:=h.fr b o hb
  show (w.heap++os)[b]?=some o
  rw [Array.getElem?_append_left (Zw h1)];exact h1
 ·rintro k b ⟨B,hB,_⟩;simp at hB
 ·rintro j k b ⟨B,hB,_⟩;simp at hB
theorem Rel.below {E C m H w w'} (hd:Z5X=false) (h:Rel E C m H w) (hb:Go.RowKit.Below w.heap.size w w'):Rel E C m H w':=by
 have hk:∀ b o,w.heap[b]?=some o→w'.heap[b]?=some o:=fun b o hbo=>by rw [hb.block b (Zw hbo)];exact hbo
 refine ⟨hb.os.trans h.os,hb.tape.trans h.tape,⟨hb.output.trans h.output.1,fun e=>by rw [hd] at e;cases e⟩,fun b o hbo=>hk b o (h.im b o hbo),fun b o hbo=>hk b o (h.fr b o hbo),h.mf,fun k B hB=>?_,h.nn,h.sp,h.inj⟩
 refine (h.bl k B hB).mono (.refl ..) (fun _ _=>rfl) fun b hbk=>?_
 obtain ⟨o,ho⟩:=(h.bl k B hB).block hB b ⟨B,hB,hbk⟩
 rw [hk b o ho,ho]
theorem Zbi {P:Program} (hd:Z5X=false) {f:FuncId} {fn:Func} {c:Code} (hf:P.funcs[f]?=some fn) (hb:fn.body=some c) (hnm:(fn.name == "runtime.NumGoroutine")=false) {args:List SV} {H:List SB} {r:SV} (hok:∀ m,Ok m (vers H) r) (hl:live r=true)
 (h:∀ C E m w,Rel E C m H w→OkA m (vers H) args→Calls P f (denL E args).toArray w (fun e w'=>e=.returned (den E r)∧Go.RowKit.Below w.heap.size w w')):Ctr P f args H (fun r' h=>r'=r∧h=H):=by
 refine ⟨fun C E m w hr ha=>?_⟩
 have hrun:(callFunc f (denL E args).toArray).run P w=.ok (.enter f (denL E args).toArray) w:=by
  have h1:fn.name ≠ "runtime.NumGoroutine":=by simpa using hnm
  simp [callFunc,hf,h1,hb]
 unfold Z2T
 rw [hrun]
 refine (h C E m w hr ha).mono ?_
 rintro e w' ⟨rfl,hw⟩
 exact ⟨_,rfl,r,H,E,m,rfl,⟨rfl,rfl⟩,⟨hok m,hl⟩,.refl ..,hr.below hd hw⟩
theorem Z3i {P:Program} {f:FuncId} {fn:Func} {c:Code} (hf:P.funcs[f]?=some fn) (hb:fn.body=some c) (hnm:(fn.name == "runtime.NumGoroutine")=false) {args:List SV} {r:SV} (hok:∀ m,Ok m [] r) (hl:live r=true)
 (h:∀ w,TabsIn w→∀ E m,OkA m [] args→Calls P f (denL E args).toArray w (fun e w'=>e=.returned (den E r)∧∃ k os,w'=grow (w.drewN k) os)):CtrV P f args r:=by
 refine ⟨fun C E m w hr ha=>?_⟩
 have hrun:(callFunc f (denL E args).toArray).run P w=.ok (.enter f (denL E args).toArray) w:=by
  have h1:fn.name ≠ "runtime.NumGoroutine":=by simpa using hnm
  simp [callFunc,hf,h1,hb]
 unfold Z2T
 rw [hrun]
 refine (h w hr.tabs E m ha).mono ?_
 rintro e w' ⟨rfl,k,os,rfl⟩
 exact ⟨_,rfl,r,[],E,m,rfl,⟨rfl,rfl⟩,⟨hok m,hl⟩,.refl ..,hr.grown k os⟩
end
theorem tabsIn_row {laid:List (String×DataW Unit)} {W:World} (h:laidMetH Tryz.prog laid W) (hf:(laid.filter fun x=>x.2.handleName?.isSome)=[]) (hsh:W.ShapedOpen Tryz.prog)
 {n6 n7 n3 n5 n4 n1:String} (h6:(n6,Rows.laid_math_bits_deBruijn32tab) ∈ laid) (h7:(n7,Rows.laid_math_bits_deBruijn64tab) ∈ laid) (h3:(n3,Rows.laid_internal_strconv_uint64pow10) ∈ laid) (h5:(n5,Rows.laid_strconv_ErrRange) ∈ laid) (h4:(n4,Rows.laid_strconv_ErrSyntax) ∈ laid) (h1:(n1,Rows.laid_strings_asciiSpace) ∈ laid) (g6:Tryz.prog.globalNamed n6=some 6) (g7:Tryz.prog.globalNamed n7=some 7) (g3:Tryz.prog.globalNamed n3=some 3) (g5:Tryz.prog.globalNamed n5=some 5) (g4:Tryz.prog.globalNamed n4=some 4) (g1:Tryz.prog.globalNamed n1=some 1):TabsIn W:=by
 refine Zet hf h fun g v hg=>?_
 unfold tabs at hg
 cases c0:Nat.beq g 6 with
 | true=>
   rw [c0] at hg
   cases hg
   obtain rfl:=Nat.eq_of_beq_eq_true c0
   exact .inl ⟨_,274,_,5,h6,g6,by kernel_rfl,Tryz.underlying274,Tryz.underlying5,by kernel_rfl,by kernel_rfl⟩
 | false=>
 rw [c0] at hg
 simp only [cond_false] at hg
 cases c1:Nat.beq g 7 with
 | true=>
   rw [c1] at hg
   cases hg
   obtain rfl:=Nat.eq_of_beq_eq_true c1
   exact .inl ⟨_,275,_,5,h7,g7,by kernel_rfl,Tryz.underlying275,Tryz.underlying5,by kernel_rfl,by kernel_rfl⟩
 | false=>
 rw [c1] at hg
 simp only [cond_false] at hg
 cases c2:Nat.beq g 3 with
 | true=>
   rw [c2] at hg
   cases hg
   obtain rfl:=Nat.eq_of_beq_eq_true c2
   exact .inl ⟨_,242,_,151,h3,g3,by kernel_rfl,Tryz.underlying242,Tryz.underlying151,by kernel_rfl,by kernel_rfl⟩
 | false=>
 rw [c2] at hg
 simp only [cond_false] at hg
 cases c3:Nat.beq g 5 with
 | true=>
   rw [c3] at hg
   cases hg
   obtain rfl:=Nat.eq_of_beq_eq_true c3
   exact .inl ⟨_,170,_,_,_,h5,g5,by kernel_rfl,Tryz.underlying170⟩
 | false=>
 rw [c3] at hg
 simp only [cond_false] at hg
 cases c4:Nat.beq g 4 with
 | true=>
   rw [c4] at hg
   cases hg
   obtain rfl:=Nat.eq_of_beq_eq_true c4
   exact .inl ⟨_,170,_,_,_,h4,g4,by kernel_rfl,Tryz.underlying170⟩
 | false=>
 rw [c4] at hg
 simp only [cond_false] at hg
 cases c5:Nat.beq g 1 with
 | true=>
   rw [c5] at hg
   cases hg
   obtain rfl:=Nat.eq_of_beq_eq_true c5
   exact .inl ⟨_,192,_,5,h1,g1,by kernel_rfl,Tryz.underlying192,Tryz.underlying5,by kernel_rfl,by kernel_rfl⟩
 | false=>
 rw [c5] at hg
 simp only [cond_false] at hg
 cases c6:Nat.beq g 0 with
 | true=>
   rw [c6] at hg
   cases hg
   obtain rfl:=Nat.eq_of_beq_eq_true c6
   exact .inr (Zh3 (cell_of_shapedOpen_int (zero:=#[.int .i64 0]) (t:=3) hsh (of_decide_eq_true (by kernel_rfl)) (by kernel_rfl) rfl (by kernel_rfl) (by kernel_rfl) Tryz.underlying3))
 | false=>
 rw [c6] at hg
 simp only [cond_false] at hg
 cases hg
def letB (n:Int):Bool:=(decide (97≤n)&&decide (n≤122))||(decide (65≤n)&&decide (n≤90))
def digB (n:Int):Bool:=decide (48≤n)&&decide (n≤57)
def numB (n:Int):Bool:=letB n||digB n
def namB (n:Int):Bool:=((letB n||digB n)||decide (n=95))||decide (n=46)
def cd (s:List UInt8) (k:Nat):Int:=((s.getD k 0).toNat:Int)
def rowF (p:Int→Bool):List UInt8→Nat
 | []=>0
 | c::r=>if p (c.toNat:Int) then rowF p r+1 else 0
theorem Z8U (p:Int→Bool):∀ s:List UInt8,rowF p s≤s.length
 | []=>Nat.le_refl _
 | c::r=>by
   have:=Z8U p r
   simp only [rowF,List.length_cons]
   split <;> omega
theorem Zcj (p:Int→Bool):∀ (k:Nat) (s:List UInt8),k≤s.length→(∀ j,j < k→p (cd s j)=true)→(k=s.length∨p (cd s k)=false)→rowF p s=k
 | 0,[],_,_,_=>rfl
 | 0,c::r,_,_,h=>by
   rcases h with h | h
   ·simp at h
   ·have h:p (c.toNat:Int)=false:=h
    simp only [rowF,h];rfl
 | k+1,[],h,_,_=>by simp at h
 | k+1,c::r,h1,h2,h3=>by
   have h0:p (c.toNat:Int)=true:=h2 0 (by omega)
   simp only [rowF,h0,if_true]
   congr 1
   refine Zcj p k r (by simpa using h1) (fun j hj=>h2 (j+1) (by omega)) ?_
   rcases h3 with h3 | h3
   ·left;simpa using h3
   ·right;exact h3
theorem Zbj (p:Int→Bool):∀ (s:List UInt8),∀ c ∈ s.take (rowF p s),p (c.toNat:Int)=true
 | [],c,h=>by simp at h
 | x::r,c,h=>by
   simp only [rowF] at h
   split at h
   ·rename_i hx
    rw [List.take_succ_cons] at h
    rcases List.mem_cons.1 h with rfl | h
    ·exact hx
    ·exact Zbj p r c h
   ·simp at h
theorem Zbk {p:Int→Bool} {s:List UInt8} (h:s≠[]) (h0:p (cd s 0)=true):0 < rowF p s:=by
 match s,h with
 | c::r,_=>
   have h0:p (c.toNat:Int)=true:=h0
   simp only [rowF,h0,if_true];omega
def pre (s p:List UInt8):Bool:=decide ((p.length:Int)≤s.length)&&decide ((s.take p.length).drop 0=p)
structure Tk where
 k:Int
 s:List UInt8
 n:Int
 a:Int
 deriving DecidableEq
def tk0:Tk:=⟨0,[],0,0⟩
def Z4I (t:Tk):List SV:=[.i .i64 t.k,.s t.s,.i .i64 t.n,.i .i64 t.a]
def digV (c:Nat):Nat:=if 48≤c∧c≤57 then c - 48 else if 97≤c∧c≤122 then c - 87 else if 65≤c∧c≤90 then c - 55 else 99
def valB (b:Nat):List UInt8→Nat→Option Nat
 | [],n=>some n
 | c::r,n=>if digV c.toNat < b then valB b r (n * b+digV c.toNat) else none
def hexB (w:List UInt8):Bool:=pre w [48,120]
def Z12 (w:List UInt8):List UInt8:=if hexB w then w.drop 2 else w
def Z2G (w:List UInt8):Nat:=if hexB w then 16 else 10
def Z2b (w:List UInt8):Nat:=if hexB w then 16 else 19
def numF (w:List UInt8):Option Nat:=
 if Z2b w < (Z12 w).length then none else if Z12 w=[] then none else
  match valB (Z2G w) (Z12 w) 0 with
  | none=>none
  | some n=>if n≤9223372036854775808 then some n else none
def Z2Q:List UInt8:=[123,125,40,41,91,93,59,124,44,58,61,43,45,35,36,126,42,47,92,38,63,94]
inductive Sp where
 | skip (n:Nat)
 | tok (t:Tk)
 | err (e:Int)
def Z1t (s:List UInt8) (at':Nat):Sp:=
 if decide (cd s 0=32)||decide (cd s 0=9)||decide (cd s 0=10) then .skip 1
 else if pre s [40,42] then (if Lib.index (s.drop 2) [42,41] < 0 then .err 24 else .skip ((Lib.index (s.drop 2) [42,41]).toNat+4))
 else if digB (cd s 0) then (match numF (s.take (rowF numB s)) with
  | none=>.err 23
  | some n=>.tok ⟨2,s.take (rowF numB s),IntKind.i64.wrap n,at'⟩)
 else if letB (cd s 0)||decide (cd s 0=95) then .tok ⟨1,s.take (rowF namB s),0,at'⟩
 else if pre s [47,92]||pre s [92,47] then .tok ⟨3,s.take 2,0,at'⟩
 else if s.getD 0 0 ∈ Z2Q then .tok ⟨3,s.take 1,0,at'⟩
 else .err 20
def tokC (s:List UInt8):Nat→Nat→List Tk→List Tk×Int×Int
 | 0,_,out=>(out,0,0)
 | f+1,at',out=>if s.length≤at' then (out,0,0) else
   match Z1t (s.drop at') at' with
   | .skip n=>tokC s f (at'+n) out
   | .tok t=>tokC s f (at'+t.s.length) (out++[t])
   | .err e=>([],e,at')
def tokF (s:List UInt8):List Tk×Int×Int:=if 8192 < s.length then ([],2,0) else tokC s (s.length+1) 0 []
theorem Zg2 {s:List UInt8} {f at':Nat} {out:List Tk} (h:s.length≤at'):tokC s f at' out=(out,0,0):=by
 cases f with
 | zero=>rfl
 | succ f=>simp only [tokC,if_pos h]
theorem ZeB {s:List UInt8} {f at':Nat} {out:List Tk} (h:at' < s.length) (hf:s.length < at'+f) :
 ∃ f',f=f'+1∧tokC s f at' out=(match Z1t (s.drop at') at' with
 | .skip n=>tokC s f' (at'+n) out
 | .tok t=>tokC s f' (at'+t.s.length) (out++[t])
 | .err e=>([],e,at')):=by
 cases f with
 | zero=>omega
 | succ f=>exact ⟨f,rfl,by simp only [tokC,if_neg (Nat.not_le.2 h)]⟩
theorem w64 {x:Int} (h1 : -9223372036854775808≤x) (h2:x≤9223372036854775807):IntKind.i64.wrap x=x:=IntWalk.i64_in x ⟨h1,h2⟩
theorem b_cg {x y:Bool} (h:x=y):SV.b x=SV.b y:=congrArg SV.b h
theorem i_cg {x y:Int} (h:x=y):SV.i .i64 x=SV.i .i64 y:=congrArg (SV.i .i64) h
theorem s_cg {x y:List UInt8} (h:x=y):SV.s x=SV.s y:=congrArg SV.s h
theorem Z7o (n:Int):CtrV Tryz.prog 121 [.i .u8 n] (.b (digB n)):=by
 refine Z8 Z5 (fn:=Tryz.f121) Z Z Z Z Z Z ?_
 exact rfl
theorem Z6l (n:Int):CtrV Tryz.prog 124 [.i .u8 n] (.b (letB n)):=by
 refine Z8 Z5 (fn:=Tryz.f124) Z Z Z Z Z Z ?_
 exact rfl
theorem Zg3 (n:Int):CtrV Tryz.prog 123 [.i .u8 n] (.b (numB n)):=by
 refine Z8 Z5 (fn:=Tryz.f123) Z Z Z Z Z Z ?_
 refine Z4 Z Z Z Z Z Z Z (fun _=>Z6l n) ?_
 refine Z4 Z Z Z Z Z Z Z (fun _=>Z7o n) ?_
 exact rfl
theorem Zg4 (n:Int):CtrV Tryz.prog 126 [.i .u8 n] (.b (namB n)):=by
 refine Z8 Z5 (fn:=Tryz.f126) Z Z Z Z Z Z ?_
 refine Z4 Z Z Z Z Z Z Z (fun _=>Z6l n) ?_
 refine Z4 Z Z Z Z Z Z Z (fun _=>Z7o n) ?_
 exact rfl
theorem ZeC (f:Nat) (p:Int→Bool) (hf:∀ n,CtrV Tryz.prog f [.i .u8 n] (.b (p n))) (s:List UInt8) (hs:s.length≤100000):CtrV Tryz.prog 122 [.s s,.fn f []] (.i .i64 (rowF p s)):=by
 refine Z8 Z5 (fn:=Tryz.f122) Z Z Z Z Z Z ?_
 refine WpC.loop Z5 (β:=Nat) (fun k=>k≤s.length∧∀ j,j < k→p (cd s j)=true) (fun k=>[(5,.i .i64 k)]) (fun _=>[]) (fun k=>s.length - k) 0 524256 ⟨Nat.zero_le _,fun j hj=>by omega⟩ ?_ ?_
 ·exact ⟨rfl,⟨⟨rfl,rfl,rfl⟩,trivial⟩,⟨[],rfl⟩,trivial,rfl⟩
 ·rintro k ⟨hk,ho⟩
  refine ⟨fun hg=>?_,?_⟩
  ·have hg:(decide ((k:Int) < s.length) == true)=true:=hg
   have hg:k < s.length:=by simpa using hg
   exact ⟨by omega,by omega⟩
  refine Z4 Z Z Z Z Z Z Z (fun _=>hf (cd s k)) ?_
  refine ⟨fun h2=>?_,fun h2=>?_⟩
  ·have h2:(decide ((k:Int) < s.length)&&p (cd s k))=true:=h2
   simp only [Bool.and_eq_true,decide_eq_true_eq] at h2
   refine ⟨k+1,⟨by omega,fun j hj=>?_⟩,by omega,rfl,⟨⟨?_,rfl,rfl⟩,trivial⟩,⟨[],rfl⟩,trivial,rfl⟩
   ·rcases Nat.lt_succ_iff_lt_or_eq.1 hj with hj | rfl
    ·exact ho j hj
    ·exact h2.2
   ·show SV.i .i64 (IntKind.i64.wrap ((k:Int)+1))=SV.i .i64 ((k+1:Nat):Int)
    rw [w64 (by omega) (by omega)];rfl
  ·have h2:(decide ((k:Int) < s.length)&&p (cd s k))=false:=h2
   refine i_cg ?_
   rw [Zcj p k s hk ho]
   by_cases h3:k=s.length
   ·exact .inl h3
   ·have h4:decide ((k:Int) < s.length)=true:=by simp;omega
    rw [h4] at h2
    exact .inr h2
theorem ZeD (s p:List UInt8):CtrV Tryz.prog 141 [.s s,.s p] (.b (pre s p)):=by
 refine Z8 Z5 (fn:=Tryz.f141) Z Z Z Z Z Z ?_
 refine ⟨fun hg=>?_,rfl⟩
 have hg:(decide ((p.length:Int)≤s.length) == true)=true:=hg
 have hg:p.length≤s.length:=by simpa using hg
 exact ⟨by omega,by omega⟩
theorem Z4u (s p:List UInt8):CtrV Tryz.prog 119 [.s s,.s p] (.b (pre s p)):=by
 refine Z8 Z5 (fn:=Tryz.f119) Z Z Z Z Z Z ?_
 refine Z4 Z Z Z Z Z Z Z (fun _=>ZeD s p) ?_
 exact rfl
theorem Z8V {s p:List UInt8} (h:pre s p=true):p.length≤s.length:=by
 unfold pre at h;simp only [Bool.and_eq_true,decide_eq_true_eq] at h;omega
def cutP (s p:List UInt8):List UInt8:=if pre s p then (s.take s.length).drop p.length else s
theorem ZeE (s p:List UInt8):CtrV Tryz.prog 168 [.s s,.s p] (.tup [.s (cutP s p),.b (pre s p)]):=by
 refine Z8 Z5 (fn:=Tryz.f168) Z Z Z Z Z Z ?_
 refine Z4 Z Z Z Z Z Z Z (fun _=>ZeD s p) ?_
 refine ⟨fun h=>?_,fun h=>?_⟩
 ·have h:(!pre s p)=true:=h
  have h:pre s p=false:=by simpa using h
  show _=SV.tup [.s (cutP s p),.b (pre s p)]
  unfold cutP
  rw [h];rfl
 ·have h:(!pre s p)=false:=h
  have h:pre s p=true:=by simpa using h
  refine ⟨fun _=>?_,?_⟩
  ·have:=Z8V h
   exact ⟨by omega,by omega⟩
  ·show _=SV.tup [.s (cutP s p),.b (pre s p)]
   unfold cutP
   rw [h];rfl
theorem Zbl (s p:List UInt8):CtrV Tryz.prog 143 [.s s,.s p] (.tup [.s (cutP s p),.b (pre s p)]):=by
 refine Z8 Z5 (fn:=Tryz.f143) Z Z Z Z Z Z ?_
 refine Z4 Z Z Z Z Z Z Z (fun _=>ZeE s p) ?_
 exact rfl
end SX
end Go.Proofs.YtdddpbmcoimgdaaGreatDoor
