import Derived.Test.YtoiebebjgnpkmaaGreatDoorYJ2
import Derived.Deep.Strs
import Derived.ChangeSlices
import Derived.ChangeOld
namespace Go.Proofs.YtoiebebjgnpkmaaGreatDoor
set_option linter.unusedSimpArgs false
set_option linter.unusedVariables false
def zl_33:List Value:=strV []::strV []:: .int .i64 0:: .int .i64 0:: .slice none 0 0:: .slice none 0 0:: .slice none 0 0:: .bool false::[.int .i64 0]
def zl_61:List Value:= .int .i64 0:: .int .i64 0:: .int .i64 0:: .int .i64 0:: .int .i64 0:: .int .i64 0:: .int .i64 0:: .int .i64 0::strV []:: .int .i64 0:: .int .i64 0:: .int .i64 0:: .int .i64 0:: .int .i64 0:: .int .i64 0:: .int .i64 0:: .int .i64 0::[.int .i64 0, .int .i64 0, .int .i64 0, .int .i64 0]
def zl_123:List Value:=List.replicate 256 (.bool false)
def zl_171:List Value:=List.replicate 24 (.int .u8 0)
def zl_211:List Value:=List.replicate 20 (.int .u64 0)
def zl_212:List Value:=List.replicate 65 (.int .u8 0)
def zl_267:List Value:=List.replicate 256 (.int .u8 0)
def zl_270:List Value:=(List.replicate 16 [.int .u8 0, .int .u8 0]).flatten
def zl_272:List Value:=List.replicate 32 (.int .u8 0)
def zl_273:List Value:=List.replicate 64 (.int .u8 0)
def zl_298:List Value:= .int .u64 0:: .int .u64 0:: .int .u32 0:: .int .u8 0:: .int .u8 0:: .int .u8 0:: .int .u8 0:: .nilFunc:: .pointer none:: .int .i32 0::[.int .i32 0]
instance:Ti Tryz.prog 2 [.int .i64 0] 1:=⟨by kernel_rfl⟩
instance:Sc Tryz.prog 2:=⟨by kernel_rfl,by kernel_rfl⟩
instance:Iy Tryz.prog 2 .i64:=⟨by kernel_rfl⟩
instance:Ti Tryz.prog 3 [.int .i64 0] 1:=⟨by kernel_rfl⟩
instance:Sc Tryz.prog 3:=⟨by kernel_rfl,by kernel_rfl⟩
instance:Iy Tryz.prog 3 .i64:=⟨by kernel_rfl⟩
instance:Ti Tryz.prog 4 [.bool false] 1:=⟨by kernel_rfl⟩
instance:Sc Tryz.prog 4:=⟨by kernel_rfl,by kernel_rfl⟩
instance:Ti Tryz.prog 5 [.int .u8 0] 1:=⟨by kernel_rfl⟩
instance:Sc Tryz.prog 5:=⟨by kernel_rfl,by kernel_rfl⟩
instance:Iy Tryz.prog 5 .u8:=⟨by kernel_rfl⟩
instance:Ti Tryz.prog 6 [.int .u8 0] 1:=⟨by kernel_rfl⟩
instance:Sc Tryz.prog 6:=⟨by kernel_rfl,by kernel_rfl⟩
instance:Iy Tryz.prog 6 .u8:=⟨by kernel_rfl⟩
instance:Ti Tryz.prog 7 [.int .i64 0, .int .i64 0, .bool false, .int .u8 0] 4:=⟨by kernel_rfl⟩
instance:Ro Tryz.prog 7 4:=⟨by kernel_rfl⟩
instance:St Tryz.prog 7 [(0,1),(1,1),(2,1),(3,1)] [.int .i64 0, .int .i64 0, .bool false, .int .u8 0]:=⟨by kernel_rfl⟩
instance:Fo Tryz.prog 7 0 0:=⟨by kernel_rfl⟩
instance:Fo Tryz.prog 7 1 1:=⟨by kernel_rfl⟩
instance:Fo Tryz.prog 7 2 2:=⟨by kernel_rfl⟩
instance:Fo Tryz.prog 7 3 3:=⟨by kernel_rfl⟩
instance:Ti Tryz.prog 8 [.int .i64 0, .int .i64 0, .bool false, .int .u8 0] 4:=⟨by kernel_rfl⟩
instance:Ro Tryz.prog 8 4:=⟨by kernel_rfl⟩
instance:St Tryz.prog 8 [(0,1),(1,1),(2,1),(3,1)] [.int .i64 0, .int .i64 0, .bool false, .int .u8 0]:=⟨by kernel_rfl⟩
instance:Fo Tryz.prog 8 0 0:=⟨by kernel_rfl⟩
instance:Fo Tryz.prog 8 1 1:=⟨by kernel_rfl⟩
instance:Fo Tryz.prog 8 2 2:=⟨by kernel_rfl⟩
instance:Fo Tryz.prog 8 3 3:=⟨by kernel_rfl⟩
instance:Ti Tryz.prog 9 [strV []] 1:=⟨by kernel_rfl⟩
instance:Sc Tryz.prog 9:=⟨by kernel_rfl,by kernel_rfl⟩
instance:Sy Tryz.prog 9:=⟨by kernel_rfl⟩
instance:Ti Tryz.prog 10 [strV []] 1:=⟨by kernel_rfl⟩
instance:Sc Tryz.prog 10:=⟨by kernel_rfl,by kernel_rfl⟩
instance:Sy Tryz.prog 10:=⟨by kernel_rfl⟩
instance:Ti Tryz.prog 11 [strV []] 1:=⟨by kernel_rfl⟩
instance:Sc Tryz.prog 11:=⟨by kernel_rfl,by kernel_rfl⟩
instance:Sy Tryz.prog 11:=⟨by kernel_rfl⟩
instance:Ti Tryz.prog 12 [.int .u64 0] 1:=⟨by kernel_rfl⟩
instance:Sc Tryz.prog 12:=⟨by kernel_rfl,by kernel_rfl⟩
instance:Iy Tryz.prog 12 .u64:=⟨by kernel_rfl⟩
instance:Ti Tryz.prog 13 [strV [], .int .u64 0] 2:=⟨by kernel_rfl⟩
instance:Ro Tryz.prog 13 2:=⟨by kernel_rfl⟩
instance:St Tryz.prog 13 [(0,1),(1,1)] [strV [], .int .u64 0]:=⟨by kernel_rfl⟩
instance:Fo Tryz.prog 13 0 0:=⟨by kernel_rfl⟩
instance:Fo Tryz.prog 13 1 1:=⟨by kernel_rfl⟩
instance:Ti Tryz.prog 14 [strV [], .int .u64 0] 2:=⟨by kernel_rfl⟩
instance:Ro Tryz.prog 14 2:=⟨by kernel_rfl⟩
instance:St Tryz.prog 14 [(0,1),(1,1)] [strV [], .int .u64 0]:=⟨by kernel_rfl⟩
instance:Fo Tryz.prog 14 0 0:=⟨by kernel_rfl⟩
instance:Fo Tryz.prog 14 1 1:=⟨by kernel_rfl⟩
instance:Ti Tryz.prog 15 [.pointer none] 1:=⟨by kernel_rfl⟩
instance:Sc Tryz.prog 15:=⟨by kernel_rfl,by kernel_rfl⟩
instance:Pp Tryz.prog 15:=⟨by kernel_rfl⟩
instance:Ti Tryz.prog 16 [.pointer none] 1:=⟨by kernel_rfl⟩
instance:Sc Tryz.prog 16:=⟨by kernel_rfl,by kernel_rfl⟩
instance:Pp Tryz.prog 16:=⟨by kernel_rfl⟩
instance:Ti Tryz.prog 17 [.pointer none] 1:=⟨by kernel_rfl⟩
instance:Sc Tryz.prog 17:=⟨by kernel_rfl,by kernel_rfl⟩
instance:Pp Tryz.prog 17:=⟨by kernel_rfl⟩
instance:Ti Tryz.prog 18 [.pointer none] 1:=⟨by kernel_rfl⟩
instance:Ro Tryz.prog 18 1:=⟨by kernel_rfl⟩
instance:St Tryz.prog 18 [(0,1)] [.pointer none]:=⟨by kernel_rfl⟩
instance:Fo Tryz.prog 18 0 0:=⟨by kernel_rfl⟩
instance:Ti Tryz.prog 19 [.pointer none] 1:=⟨by kernel_rfl⟩
instance:Ro Tryz.prog 19 1:=⟨by kernel_rfl⟩
instance:St Tryz.prog 19 [(0,1)] [.pointer none]:=⟨by kernel_rfl⟩
instance:Fo Tryz.prog 19 0 0:=⟨by kernel_rfl⟩
instance:Ti Tryz.prog 21 [.int .i32 0] 1:=⟨by kernel_rfl⟩
instance:Sc Tryz.prog 21:=⟨by kernel_rfl,by kernel_rfl⟩
instance:Iy Tryz.prog 21 .i32:=⟨by kernel_rfl⟩
instance:Ti Tryz.prog 22 [.int .u64 0] 1:=⟨by kernel_rfl⟩
instance:Sc Tryz.prog 22:=⟨by kernel_rfl,by kernel_rfl⟩
instance:Iy Tryz.prog 22 .u64:=⟨by kernel_rfl⟩
instance:Ti Tryz.prog 23 [.int .u64 0] 1:=⟨by kernel_rfl⟩
instance:Sc Tryz.prog 23:=⟨by kernel_rfl,by kernel_rfl⟩
instance:Iy Tryz.prog 23 .u64:=⟨by kernel_rfl⟩
instance:Ti Tryz.prog 24 [.slice none 0 0] 1:=⟨by kernel_rfl⟩
instance:Sc Tryz.prog 24:=⟨by kernel_rfl,by kernel_rfl⟩
instance:Si Tryz.prog 24 3 [.int .i64 0] 1 8:=⟨by kernel_rfl,rfl⟩
instance:Ti Tryz.prog 25 [.slice none 0 0] 1:=⟨by kernel_rfl⟩
instance:Sc Tryz.prog 25:=⟨by kernel_rfl,by kernel_rfl⟩
instance:Si Tryz.prog 25 23 [.int .u64 0] 1 8:=⟨by kernel_rfl,rfl⟩
instance:Ti Tryz.prog 26 [.int .i64 0, .int .i64 0, .slice none 0 0, .slice none 0 0, .slice none 0 0] 5:=⟨by kernel_rfl⟩
instance:Ro Tryz.prog 26 5:=⟨by kernel_rfl⟩
instance:St Tryz.prog 26 [(0,1),(1,1),(2,1),(3,1),(4,1)] [.int .i64 0, .int .i64 0, .slice none 0 0, .slice none 0 0, .slice none 0 0]:=⟨by kernel_rfl⟩
instance:Fo Tryz.prog 26 0 0:=⟨by kernel_rfl⟩
instance:Fo Tryz.prog 26 1 1:=⟨by kernel_rfl⟩
instance:Fo Tryz.prog 26 2 2:=⟨by kernel_rfl⟩
instance:Fo Tryz.prog 26 3 3:=⟨by kernel_rfl⟩
instance:Fo Tryz.prog 26 4 4:=⟨by kernel_rfl⟩
instance:Ti Tryz.prog 27 [.int .i64 0, .int .i64 0, .slice none 0 0, .slice none 0 0, .slice none 0 0] 5:=⟨by kernel_rfl⟩
instance:Ro Tryz.prog 27 5:=⟨by kernel_rfl⟩
instance:St Tryz.prog 27 [(0,1),(1,1),(2,1),(3,1),(4,1)] [.int .i64 0, .int .i64 0, .slice none 0 0, .slice none 0 0, .slice none 0 0]:=⟨by kernel_rfl⟩
instance:Fo Tryz.prog 27 0 0:=⟨by kernel_rfl⟩
instance:Fo Tryz.prog 27 1 1:=⟨by kernel_rfl⟩
instance:Fo Tryz.prog 27 2 2:=⟨by kernel_rfl⟩
instance:Fo Tryz.prog 27 3 3:=⟨by kernel_rfl⟩
instance:Fo Tryz.prog 27 4 4:=⟨by kernel_rfl⟩
instance:Ti Tryz.prog 28 [.slice none 0 0] 1:=⟨by kernel_rfl⟩
instance:Sc Tryz.prog 28:=⟨by kernel_rfl,by kernel_rfl⟩
instance:Si Tryz.prog 28 5 [.int .u8 0] 1 1:=⟨by kernel_rfl,rfl⟩
instance:By Tryz.prog 28:=⟨⟨5,by kernel_rfl,by kernel_rfl⟩⟩
instance:Ti Tryz.prog 29 [.int .i64 0] 1:=⟨by kernel_rfl⟩
instance:Sc Tryz.prog 29:=⟨by kernel_rfl,by kernel_rfl⟩
instance:Iy Tryz.prog 29 .i64:=⟨by kernel_rfl⟩
instance:Ti Tryz.prog 32 zl_33 9:=⟨by kernel_rfl⟩
instance:Ro Tryz.prog 32 9:=⟨by kernel_rfl⟩
instance:St Tryz.prog 32 [(0,1),(1,1),(2,5),(7,1),(8,1)] zl_33:=⟨by kernel_rfl⟩
instance:Fo Tryz.prog 32 0 0:=⟨by kernel_rfl⟩
instance:Fo Tryz.prog 32 1 1:=⟨by kernel_rfl⟩
instance:Fo Tryz.prog 32 2 2:=⟨by kernel_rfl⟩
instance:Fo Tryz.prog 32 3 7:=⟨by kernel_rfl⟩
instance:Fo Tryz.prog 32 4 8:=⟨by kernel_rfl⟩
instance:Ti Tryz.prog 33 zl_33 9:=⟨by kernel_rfl⟩
instance:Ro Tryz.prog 33 9:=⟨by kernel_rfl⟩
instance:St Tryz.prog 33 [(0,1),(1,1),(2,5),(7,1),(8,1)] zl_33:=⟨by kernel_rfl⟩
instance:Fo Tryz.prog 33 0 0:=⟨by kernel_rfl⟩
instance:Fo Tryz.prog 33 1 1:=⟨by kernel_rfl⟩
instance:Fo Tryz.prog 33 2 2:=⟨by kernel_rfl⟩
instance:Fo Tryz.prog 33 3 7:=⟨by kernel_rfl⟩
instance:Fo Tryz.prog 33 4 8:=⟨by kernel_rfl⟩
instance:Ti Tryz.prog 40 [.slice none 0 0] 1:=⟨by kernel_rfl⟩
instance:Sc Tryz.prog 40:=⟨by kernel_rfl,by kernel_rfl⟩
instance:Si Tryz.prog 40 46 [.int .i64 0, .int .i64 0, .int .u64 0] 3 24:=⟨by kernel_rfl,rfl⟩
instance:Ti Tryz.prog 44 [.slice none 0 0] 1:=⟨by kernel_rfl⟩
instance:Sc Tryz.prog 44:=⟨by kernel_rfl,by kernel_rfl⟩
instance:Si Tryz.prog 44 9 [strV []] 1 16:=⟨by kernel_rfl,rfl⟩
instance:Ti Tryz.prog 45 [.int .i64 0, .int .i64 0, .int .u64 0] 3:=⟨by kernel_rfl⟩
instance:Ro Tryz.prog 45 3:=⟨by kernel_rfl⟩
instance:St Tryz.prog 45 [(0,1),(1,1),(2,1)] [.int .i64 0, .int .i64 0, .int .u64 0]:=⟨by kernel_rfl⟩
instance:Fo Tryz.prog 45 0 0:=⟨by kernel_rfl⟩
instance:Fo Tryz.prog 45 1 1:=⟨by kernel_rfl⟩
instance:Fo Tryz.prog 45 2 2:=⟨by kernel_rfl⟩
instance:Ti Tryz.prog 46 [.int .i64 0, .int .i64 0, .int .u64 0] 3:=⟨by kernel_rfl⟩
instance:Ro Tryz.prog 46 3:=⟨by kernel_rfl⟩
instance:St Tryz.prog 46 [(0,1),(1,1),(2,1)] [.int .i64 0, .int .i64 0, .int .u64 0]:=⟨by kernel_rfl⟩
instance:Fo Tryz.prog 46 0 0:=⟨by kernel_rfl⟩
instance:Fo Tryz.prog 46 1 1:=⟨by kernel_rfl⟩
instance:Fo Tryz.prog 46 2 2:=⟨by kernel_rfl⟩
instance:Ti Tryz.prog 49 [.int .i64 0, .int .i64 0, .int .i64 0, .int .i64 0] 4:=⟨by kernel_rfl⟩
instance:Ro Tryz.prog 49 4:=⟨by kernel_rfl⟩
instance:St Tryz.prog 49 [(0,1),(1,1),(2,1),(3,1)] [.int .i64 0, .int .i64 0, .int .i64 0, .int .i64 0]:=⟨by kernel_rfl⟩
instance:Fo Tryz.prog 49 0 0:=⟨by kernel_rfl⟩
instance:Fo Tryz.prog 49 1 1:=⟨by kernel_rfl⟩
instance:Fo Tryz.prog 49 2 2:=⟨by kernel_rfl⟩
instance:Fo Tryz.prog 49 3 3:=⟨by kernel_rfl⟩
instance:Ti Tryz.prog 50 [.int .i64 0, .int .i64 0, .int .i64 0, .int .i64 0] 4:=⟨by kernel_rfl⟩
instance:Ro Tryz.prog 50 4:=⟨by kernel_rfl⟩
instance:St Tryz.prog 50 [(0,1),(1,1),(2,1),(3,1)] [.int .i64 0, .int .i64 0, .int .i64 0, .int .i64 0]:=⟨by kernel_rfl⟩
instance:Fo Tryz.prog 50 0 0:=⟨by kernel_rfl⟩
instance:Fo Tryz.prog 50 1 1:=⟨by kernel_rfl⟩
instance:Fo Tryz.prog 50 2 2:=⟨by kernel_rfl⟩
instance:Fo Tryz.prog 50 3 3:=⟨by kernel_rfl⟩
instance:Ti Tryz.prog 60 zl_61 21:=⟨by kernel_rfl⟩
instance:Ro Tryz.prog 60 21:=⟨by kernel_rfl⟩
instance:St Tryz.prog 60 [(0,1),(1,1),(2,1),(3,1),(4,1),(5,1),(6,1),(7,1),(8,1),(9,4),(13,4),(17,4)] zl_61:=⟨by kernel_rfl⟩
instance:Fo Tryz.prog 60 0 0:=⟨by kernel_rfl⟩
instance:Fo Tryz.prog 60 1 1:=⟨by kernel_rfl⟩
instance:Fo Tryz.prog 60 2 2:=⟨by kernel_rfl⟩
instance:Fo Tryz.prog 60 3 3:=⟨by kernel_rfl⟩
instance:Fo Tryz.prog 60 4 4:=⟨by kernel_rfl⟩
instance:Fo Tryz.prog 60 5 5:=⟨by kernel_rfl⟩
instance:Fo Tryz.prog 60 6 6:=⟨by kernel_rfl⟩
instance:Fo Tryz.prog 60 7 7:=⟨by kernel_rfl⟩
instance:Fo Tryz.prog 60 8 8:=⟨by kernel_rfl⟩
instance:Fo Tryz.prog 60 9 9:=⟨by kernel_rfl⟩
instance:Fo Tryz.prog 60 10 13:=⟨by kernel_rfl⟩
instance:Fo Tryz.prog 60 11 17:=⟨by kernel_rfl⟩
instance:Ti Tryz.prog 61 zl_61 21:=⟨by kernel_rfl⟩
instance:Ro Tryz.prog 61 21:=⟨by kernel_rfl⟩
instance:St Tryz.prog 61 [(0,1),(1,1),(2,1),(3,1),(4,1),(5,1),(6,1),(7,1),(8,1),(9,4),(13,4),(17,4)] zl_61:=⟨by kernel_rfl⟩
instance:Fo Tryz.prog 61 0 0:=⟨by kernel_rfl⟩
instance:Fo Tryz.prog 61 1 1:=⟨by kernel_rfl⟩
instance:Fo Tryz.prog 61 2 2:=⟨by kernel_rfl⟩
instance:Fo Tryz.prog 61 3 3:=⟨by kernel_rfl⟩
instance:Fo Tryz.prog 61 4 4:=⟨by kernel_rfl⟩
instance:Fo Tryz.prog 61 5 5:=⟨by kernel_rfl⟩
instance:Fo Tryz.prog 61 6 6:=⟨by kernel_rfl⟩
instance:Fo Tryz.prog 61 7 7:=⟨by kernel_rfl⟩
instance:Fo Tryz.prog 61 8 8:=⟨by kernel_rfl⟩
instance:Fo Tryz.prog 61 9 9:=⟨by kernel_rfl⟩
instance:Fo Tryz.prog 61 10 13:=⟨by kernel_rfl⟩
instance:Fo Tryz.prog 61 11 17:=⟨by kernel_rfl⟩
instance:Ti Tryz.prog 89 [.pointer none] 1:=⟨by kernel_rfl⟩
instance:Sc Tryz.prog 89:=⟨by kernel_rfl,by kernel_rfl⟩
instance:Pp Tryz.prog 89:=⟨by kernel_rfl⟩
instance:Ti Tryz.prog 90 [.pointer none, .slice none 0 0] 2:=⟨by kernel_rfl⟩
instance:Ro Tryz.prog 90 2:=⟨by kernel_rfl⟩
instance:St Tryz.prog 90 [(0,1),(1,1)] [.pointer none, .slice none 0 0]:=⟨by kernel_rfl⟩
instance:Fo Tryz.prog 90 0 0:=⟨by kernel_rfl⟩
instance:Fo Tryz.prog 90 1 1:=⟨by kernel_rfl⟩
instance:Ti Tryz.prog 91 [.pointer none, .slice none 0 0] 2:=⟨by kernel_rfl⟩
instance:Ro Tryz.prog 91 2:=⟨by kernel_rfl⟩
instance:St Tryz.prog 91 [(0,1),(1,1)] [.pointer none, .slice none 0 0]:=⟨by kernel_rfl⟩
instance:Fo Tryz.prog 91 0 0:=⟨by kernel_rfl⟩
instance:Fo Tryz.prog 91 1 1:=⟨by kernel_rfl⟩
instance:Ti Tryz.prog 98 [.slice none 0 0] 1:=⟨by kernel_rfl⟩
instance:Sc Tryz.prog 98:=⟨by kernel_rfl,by kernel_rfl⟩
instance:Si Tryz.prog 98 44 [.slice none 0 0] 1 24:=⟨by kernel_rfl,rfl⟩
instance:Ti Tryz.prog 103 [.int .i64 0, .int .i64 0] 2:=⟨by kernel_rfl⟩
instance:Ar Tryz.prog 103 2 3 [.int .i64 0] 1:=⟨by kernel_rfl,by kernel_rfl⟩
instance:Ro Tryz.prog 103 2:=⟨by kernel_rfl⟩
instance:Ti Tryz.prog 105 [.bool false, .bool false, .bool false] 3:=⟨by kernel_rfl⟩
instance:Ar Tryz.prog 105 3 4 [.bool false] 1:=⟨by kernel_rfl,by kernel_rfl⟩
instance:Ro Tryz.prog 105 3:=⟨by kernel_rfl⟩
instance:Ti Tryz.prog 110 [.slice none 0 0] 1:=⟨by kernel_rfl⟩
instance:Sc Tryz.prog 110:=⟨by kernel_rfl,by kernel_rfl⟩
instance:Si Tryz.prog 110 162 [.int .u32 0] 1 4:=⟨by kernel_rfl,rfl⟩
instance:Ti Tryz.prog 111 [.bool false, .slice none 0 0] 2:=⟨by kernel_rfl⟩
instance:Ro Tryz.prog 111 2:=⟨by kernel_rfl⟩
instance:St Tryz.prog 111 [(0,1),(1,1)] [.bool false, .slice none 0 0]:=⟨by kernel_rfl⟩
instance:Fo Tryz.prog 111 0 0:=⟨by kernel_rfl⟩
instance:Fo Tryz.prog 111 1 1:=⟨by kernel_rfl⟩
instance:Ti Tryz.prog 112 [.bool false, .slice none 0 0] 2:=⟨by kernel_rfl⟩
instance:Ro Tryz.prog 112 2:=⟨by kernel_rfl⟩
instance:St Tryz.prog 112 [(0,1),(1,1)] [.bool false, .slice none 0 0]:=⟨by kernel_rfl⟩
instance:Fo Tryz.prog 112 0 0:=⟨by kernel_rfl⟩
instance:Fo Tryz.prog 112 1 1:=⟨by kernel_rfl⟩
instance:Ti Tryz.prog 120 [.map none] 1:=⟨by kernel_rfl⟩
instance:Sc Tryz.prog 120:=⟨by kernel_rfl,by kernel_rfl⟩
instance:Ti Tryz.prog 122 zl_123 256:=⟨by kernel_rfl⟩
instance:Ar Tryz.prog 122 256 4 [.bool false] 1:=⟨by kernel_rfl,by kernel_rfl⟩
instance:Ro Tryz.prog 122 256:=⟨by kernel_rfl⟩
instance:Ti Tryz.prog 123 zl_123 256:=⟨by kernel_rfl⟩
instance:Ar Tryz.prog 123 256 4 [.bool false] 1:=⟨by kernel_rfl,by kernel_rfl⟩
instance:Ro Tryz.prog 123 256:=⟨by kernel_rfl⟩
instance:Ti Tryz.prog 127 [.pointer none] 1:=⟨by kernel_rfl⟩
instance:Sc Tryz.prog 127:=⟨by kernel_rfl,by kernel_rfl⟩
instance:Pp Tryz.prog 127:=⟨by kernel_rfl⟩
instance:Ti Tryz.prog 135 [.int .u64 0] 1:=⟨by kernel_rfl⟩
instance:Sc Tryz.prog 135:=⟨by kernel_rfl,by kernel_rfl⟩
instance:Iy Tryz.prog 135 .u64:=⟨by kernel_rfl⟩
instance:Ti Tryz.prog 148 [.pointer none] 1:=⟨by kernel_rfl⟩
instance:Sc Tryz.prog 148:=⟨by kernel_rfl,by kernel_rfl⟩
instance:Pp Tryz.prog 148:=⟨by kernel_rfl⟩
instance:Ti Tryz.prog 150 [.slice none 0 0] 1:=⟨by kernel_rfl⟩
instance:Sc Tryz.prog 150:=⟨by kernel_rfl,by kernel_rfl⟩
instance:Si Tryz.prog 150 103 [.int .i64 0, .int .i64 0] 2 16:=⟨by kernel_rfl,rfl⟩
instance:Ti Tryz.prog 162 [.int .u32 0] 1:=⟨by kernel_rfl⟩
instance:Sc Tryz.prog 162:=⟨by kernel_rfl,by kernel_rfl⟩
instance:Iy Tryz.prog 162 .u32:=⟨by kernel_rfl⟩
instance:Ti Tryz.prog 171 zl_171 24:=⟨by kernel_rfl⟩
instance:Ar Tryz.prog 171 24 5 [.int .u8 0] 1:=⟨by kernel_rfl,by kernel_rfl⟩
instance:Ro Tryz.prog 171 24:=⟨by kernel_rfl⟩
instance:Ti Tryz.prog 182 [.bool false,strV [], .int .i64 0] 3:=⟨by kernel_rfl⟩
instance:Ro Tryz.prog 182 3:=⟨by kernel_rfl⟩
instance:St Tryz.prog 182 [(0,1),(1,1),(2,1)] [.bool false,strV [], .int .i64 0]:=⟨by kernel_rfl⟩
instance:Fo Tryz.prog 182 0 0:=⟨by kernel_rfl⟩
instance:Fo Tryz.prog 182 1 1:=⟨by kernel_rfl⟩
instance:Fo Tryz.prog 182 2 2:=⟨by kernel_rfl⟩
instance:Ti Tryz.prog 183 [.bool false,strV [], .int .i64 0] 3:=⟨by kernel_rfl⟩
instance:Ro Tryz.prog 183 3:=⟨by kernel_rfl⟩
instance:St Tryz.prog 183 [(0,1),(1,1),(2,1)] [.bool false,strV [], .int .i64 0]:=⟨by kernel_rfl⟩
instance:Fo Tryz.prog 183 0 0:=⟨by kernel_rfl⟩
instance:Fo Tryz.prog 183 1 1:=⟨by kernel_rfl⟩
instance:Fo Tryz.prog 183 2 2:=⟨by kernel_rfl⟩
instance:Ti Tryz.prog 187 [.bool false, .bool false, .slice none 0 0, .int .i64 0] 4:=⟨by kernel_rfl⟩
instance:Ro Tryz.prog 187 4:=⟨by kernel_rfl⟩
instance:St Tryz.prog 187 [(0,1),(1,2),(3,1)] [.bool false, .bool false, .slice none 0 0, .int .i64 0]:=⟨by kernel_rfl⟩
instance:Fo Tryz.prog 187 0 0:=⟨by kernel_rfl⟩
instance:Fo Tryz.prog 187 1 1:=⟨by kernel_rfl⟩
instance:Fo Tryz.prog 187 2 3:=⟨by kernel_rfl⟩
instance:Ti Tryz.prog 188 [.bool false, .bool false, .slice none 0 0, .int .i64 0] 4:=⟨by kernel_rfl⟩
instance:Ro Tryz.prog 188 4:=⟨by kernel_rfl⟩
instance:St Tryz.prog 188 [(0,1),(1,2),(3,1)] [.bool false, .bool false, .slice none 0 0, .int .i64 0]:=⟨by kernel_rfl⟩
instance:Fo Tryz.prog 188 0 0:=⟨by kernel_rfl⟩
instance:Fo Tryz.prog 188 1 1:=⟨by kernel_rfl⟩
instance:Fo Tryz.prog 188 2 3:=⟨by kernel_rfl⟩
instance:Ti Tryz.prog 206 [.slice none 0 0] 1:=⟨by kernel_rfl⟩
instance:Sc Tryz.prog 206:=⟨by kernel_rfl,by kernel_rfl⟩
instance:Si Tryz.prog 206 188 [.bool false, .bool false, .slice none 0 0, .int .i64 0] 4 48:=⟨by kernel_rfl,rfl⟩
instance:Ti Tryz.prog 211 zl_211 20:=⟨by kernel_rfl⟩
instance:Ar Tryz.prog 211 20 22 [.int .u64 0] 1:=⟨by kernel_rfl,by kernel_rfl⟩
instance:Ro Tryz.prog 211 20:=⟨by kernel_rfl⟩
instance:Ti Tryz.prog 212 zl_212 65:=⟨by kernel_rfl⟩
instance:Ar Tryz.prog 212 65 5 [.int .u8 0] 1:=⟨by kernel_rfl,by kernel_rfl⟩
instance:Ro Tryz.prog 212 65:=⟨by kernel_rfl⟩
instance:Ti Tryz.prog 230 [.bool false, .bool false, .slice none 0 0, .int .i64 0, .bool false] 5:=⟨by kernel_rfl⟩
instance:Ro Tryz.prog 230 5:=⟨by kernel_rfl⟩
instance:St Tryz.prog 230 [(0,1),(1,2),(3,1),(4,1)] [.bool false, .bool false, .slice none 0 0, .int .i64 0, .bool false]:=⟨by kernel_rfl⟩
instance:Fo Tryz.prog 230 0 0:=⟨by kernel_rfl⟩
instance:Fo Tryz.prog 230 1 1:=⟨by kernel_rfl⟩
instance:Fo Tryz.prog 230 2 3:=⟨by kernel_rfl⟩
instance:Fo Tryz.prog 230 3 4:=⟨by kernel_rfl⟩
instance:Ti Tryz.prog 231 [.bool false, .bool false, .slice none 0 0, .int .i64 0, .bool false] 5:=⟨by kernel_rfl⟩
instance:Ro Tryz.prog 231 5:=⟨by kernel_rfl⟩
instance:St Tryz.prog 231 [(0,1),(1,2),(3,1),(4,1)] [.bool false, .bool false, .slice none 0 0, .int .i64 0, .bool false]:=⟨by kernel_rfl⟩
instance:Fo Tryz.prog 231 0 0:=⟨by kernel_rfl⟩
instance:Fo Tryz.prog 231 1 1:=⟨by kernel_rfl⟩
instance:Fo Tryz.prog 231 2 3:=⟨by kernel_rfl⟩
instance:Fo Tryz.prog 231 3 4:=⟨by kernel_rfl⟩
instance:Ti Tryz.prog 235 [.int .i64 0] 1:=⟨by kernel_rfl⟩
instance:Sc Tryz.prog 235:=⟨by kernel_rfl,by kernel_rfl⟩
instance:Iy Tryz.prog 235 .i64:=⟨by kernel_rfl⟩
instance:Ti Tryz.prog 238 [.pointer none] 1:=⟨by kernel_rfl⟩
instance:Sc Tryz.prog 238:=⟨by kernel_rfl,by kernel_rfl⟩
instance:Pp Tryz.prog 238:=⟨by kernel_rfl⟩
instance:Ti Tryz.prog 265 [strV [],strV [], .nilIface] 3:=⟨by kernel_rfl⟩
instance:Ro Tryz.prog 265 3:=⟨by kernel_rfl⟩
instance:St Tryz.prog 265 [(0,1),(1,1),(2,1)] [strV [],strV [], .nilIface]:=⟨by kernel_rfl⟩
instance:Fo Tryz.prog 265 0 0:=⟨by kernel_rfl⟩
instance:Fo Tryz.prog 265 1 1:=⟨by kernel_rfl⟩
instance:Fo Tryz.prog 265 2 2:=⟨by kernel_rfl⟩
instance:Ti Tryz.prog 267 zl_267 256:=⟨by kernel_rfl⟩
instance:Ar Tryz.prog 267 256 5 [.int .u8 0] 1:=⟨by kernel_rfl,by kernel_rfl⟩
instance:Ro Tryz.prog 267 256:=⟨by kernel_rfl⟩
instance:Ti Tryz.prog 268 [.int .u8 0, .int .u8 0] 2:=⟨by kernel_rfl⟩
instance:Ro Tryz.prog 268 2:=⟨by kernel_rfl⟩
instance:St Tryz.prog 268 [(0,1),(1,1)] [.int .u8 0, .int .u8 0]:=⟨by kernel_rfl⟩
instance:Fo Tryz.prog 268 0 0:=⟨by kernel_rfl⟩
instance:Fo Tryz.prog 268 1 1:=⟨by kernel_rfl⟩
instance:Ti Tryz.prog 269 [.int .u8 0, .int .u8 0] 2:=⟨by kernel_rfl⟩
instance:Ro Tryz.prog 269 2:=⟨by kernel_rfl⟩
instance:St Tryz.prog 269 [(0,1),(1,1)] [.int .u8 0, .int .u8 0]:=⟨by kernel_rfl⟩
instance:Fo Tryz.prog 269 0 0:=⟨by kernel_rfl⟩
instance:Fo Tryz.prog 269 1 1:=⟨by kernel_rfl⟩
instance:Ti Tryz.prog 270 zl_270 32:=⟨by kernel_rfl⟩
instance:Ar Tryz.prog 270 16 269 [.int .u8 0, .int .u8 0] 2:=⟨by kernel_rfl,by kernel_rfl⟩
instance:Ro Tryz.prog 270 32:=⟨by kernel_rfl⟩
instance:Ti Tryz.prog 272 zl_272 32:=⟨by kernel_rfl⟩
instance:Ar Tryz.prog 272 32 5 [.int .u8 0] 1:=⟨by kernel_rfl,by kernel_rfl⟩
instance:Ro Tryz.prog 272 32:=⟨by kernel_rfl⟩
instance:Ti Tryz.prog 273 zl_273 64:=⟨by kernel_rfl⟩
instance:Ar Tryz.prog 273 64 5 [.int .u8 0] 1:=⟨by kernel_rfl,by kernel_rfl⟩
instance:Ro Tryz.prog 273 64:=⟨by kernel_rfl⟩
instance:Ti Tryz.prog 281 [.pointer none] 1:=⟨by kernel_rfl⟩
instance:Sc Tryz.prog 281:=⟨by kernel_rfl,by kernel_rfl⟩
instance:Pp Tryz.prog 281:=⟨by kernel_rfl⟩
instance:Ti Tryz.prog 282 [strV []] 1:=⟨by kernel_rfl⟩
instance:Ro Tryz.prog 282 1:=⟨by kernel_rfl⟩
instance:St Tryz.prog 282 [(0,1)] [strV []]:=⟨by kernel_rfl⟩
instance:Fo Tryz.prog 282 0 0:=⟨by kernel_rfl⟩
instance:Ti Tryz.prog 283 [strV []] 1:=⟨by kernel_rfl⟩
instance:Ro Tryz.prog 283 1:=⟨by kernel_rfl⟩
instance:St Tryz.prog 283 [(0,1)] [strV []]:=⟨by kernel_rfl⟩
instance:Fo Tryz.prog 283 0 0:=⟨by kernel_rfl⟩
instance:Ti Tryz.prog 290 [] 0:=⟨by kernel_rfl⟩
instance:Ro Tryz.prog 290 0:=⟨by kernel_rfl⟩
instance:St Tryz.prog 290 [(0,0)] []:=⟨by kernel_rfl⟩
instance:Ti Tryz.prog 297 zl_298 11:=⟨by kernel_rfl⟩
instance:Ro Tryz.prog 297 11:=⟨by kernel_rfl⟩
instance:St Tryz.prog 297 [(0,1),(1,1),(2,1),(3,1),(4,1),(5,1),(6,1),(7,1),(8,1),(9,1),(10,1)] zl_298:=⟨by kernel_rfl⟩
instance:Fo Tryz.prog 297 0 0:=⟨by kernel_rfl⟩
instance:Fo Tryz.prog 297 1 1:=⟨by kernel_rfl⟩
instance:Fo Tryz.prog 297 2 2:=⟨by kernel_rfl⟩
instance:Fo Tryz.prog 297 3 3:=⟨by kernel_rfl⟩
instance:Fo Tryz.prog 297 4 4:=⟨by kernel_rfl⟩
instance:Fo Tryz.prog 297 5 5:=⟨by kernel_rfl⟩
instance:Fo Tryz.prog 297 6 6:=⟨by kernel_rfl⟩
instance:Fo Tryz.prog 297 7 7:=⟨by kernel_rfl⟩
instance:Fo Tryz.prog 297 8 8:=⟨by kernel_rfl⟩
instance:Fo Tryz.prog 297 9 9:=⟨by kernel_rfl⟩
instance:Fo Tryz.prog 297 10 10:=⟨by kernel_rfl⟩
end Go.Proofs.YtoiebebjgnpkmaaGreatDoor
namespace Go.Proofs.YtoiebebjgnpkmaaGreatDoor
open Go.RowKit Go.ChangeShapes Go.WideShapes Go.Deep
set_option linter.unusedSimpArgs false
set_option linter.unusedVariables false
def SArg (w:World) (v:Value) (n:Nat) (cs:List Value):Prop:=
 ∃ p c,v= .slice p n c∧(p=none→c=0)∧n≤c∧c≤maxLen∧∀ w',Fr [] w w'→Rd w' v n cs
section
variable {H:Type} {enc:TypeId×Value→H} {P:Program} {w:World} {base:Nat} {held:Bool}
structure Deed4 where
 kind:Int
 i:Int
 dv:Value
 kv:Value
instance:Inhabited Deed4:=⟨⟨0,0, .nilFunc, .nilFunc⟩⟩
def Deed4.cells (d:Deed4):List Value:=[.int .i64 d.kind, .int .i64 d.i,d.dv,d.kv]
structure Deed4.Ok (w:World) (d:Deed4):Prop where
 kind:(Lit.int .i64 d.kind).wf=true
 i:(Lit.int .i64 d.i).wf=true
 data:∃ s:List UInt8,SArg w d.dv s.length (bytesV s)
 keep:∃ s:List Bool,SArg w d.kv s.length (s.map Value.bool)
end
end Go.Proofs.YtoiebebjgnpkmaaGreatDoor
namespace Go.Proofs.YtoiebebjgnpkmaaGreatDoor
open Go.RowKit
set_option linter.unusedSimpArgs false
set_option linter.unusedVariables false
def RowAt (e:TypeId) (sz:Nat) (v:Value) (n:Nat) (xs:List Value) (S:List Nat) (w:World):Prop:=
 xs.length=n*sz∧((S=[]∧n=0∧v= .slice none 0 0)∨∃ g cap pad,S=[g]∧v= .slice (some ⟨g,0,none⟩) n cap∧n≤cap∧cap≤maxLen∧(xs++pad).length=cap*sz∧w.heap[g]? =some (.cells (xs++pad).toArray e (0,0)))
theorem RowAt.nil {e:TypeId} {sz:Nat} (w:World):RowAt e sz (.slice none 0 0) 0 [] [] w:=⟨by simp, .inl ⟨rfl,rfl,rfl⟩⟩
theorem RowAt.firm {e:TypeId} {sz:Nat} {v:Value} {n:Nat} {xs:List Value} {S:List Nat}:Firm S (RowAt e sz v n xs S):=by
 refine ⟨fun w w' R k hn h=> ?_,fun w h x hx=> ?_,fun w h=> ?_⟩
 ·obtain ⟨h0,h | ⟨g,cap,pad,rfl,h1,h2,h3,h4,h5⟩⟩:=h
  ·exact ⟨h0, .inl h⟩
  ·exact ⟨h0, .inr ⟨g,cap,pad,rfl,h1,h2,h3,h4,k.get h5 (hn g (by simp))⟩⟩
 ·obtain ⟨h0,⟨rfl,_⟩ | ⟨g,cap,pad,rfl,h1,h2,h3,h4,h5⟩⟩:=h
  ·simp at hx
  ·simp only [List.mem_singleton] at hx;subst hx;exact lt_of_get h5
 ·obtain ⟨h0,⟨rfl,_⟩ | ⟨g,cap,pad,rfl,h1,h2,h3,h4,h5⟩⟩:=h<;>simp
instance {e:TypeId} {sz:Nat} {v:Value} {n:Nat} {xs:List Value} {S:List Nat}:Fm S (RowAt e sz v n xs S):=⟨RowAt.firm⟩
theorem RowAt.form {e:TypeId} {sz:Nat} {v:Value} {n:Nat} {xs:List Value} {S:List Nat} {w:World} (h:RowAt e sz v n xs S w):∃ p c,v= .slice p n c∧n≤c∧c≤maxLen∧(p=none→c=0):=by
 obtain ⟨h0,⟨rfl,rfl,rfl⟩ | ⟨g,cap,pad,rfl,rfl,h2,h3,h4,h5⟩⟩:=h
 ·exact ⟨none,0,rfl,Nat.le_refl _,Nat.zero_le _,fun _ =>rfl⟩
 ·exact ⟨_,cap,rfl,h2,h3,by simp⟩
theorem RowAt.rd {e:TypeId} {sz:Nat} {v:Value} {n:Nat} {xs:List Value} {S:List Nat} {w:World} (h:RowAt e sz v n xs S w):Rd w v n xs:=by
 obtain ⟨h0,⟨rfl,rfl,rfl⟩ | ⟨g,cap,pad,rfl,rfl,h2,h3,h4,h5⟩⟩:=h
 ·exact .inl ⟨rfl,List.eq_nil_of_length_eq_zero (by simpa using h0),none,0,rfl⟩
 ·refine .inr ⟨_,cap,rfl,fun j u hj=> ?_⟩
  rw [add_mk,cell_of_row w g _ _ _ _ h5,Nat.zero_add]
  simpa using (by rw [List.getElem?_append_left (List.getElem?_eq_some_iff.1 hj).1];exact hj:(xs++pad)[j]? =some u)
theorem RowAt.of_owns {w':World} {base:Nat} {e:TypeId} {sz n:Nat} {v:Value} {xs:List Value} (h:w'.ownsRow base e sz v n xs):∃ S,RowAt e sz v n xs S w'∧∀ x∈S,base≤x:=by
 obtain ⟨hx,⟨h1,h2⟩ | ⟨g,cap,cur,rfl,hb,hg,h1,h2,h3,h4⟩⟩:=h
 ·subst h2;exact ⟨[],⟨hx, .inl ⟨rfl,rfl,h1⟩⟩,by simp⟩
 ·have e1:cur=(xs++cur.toList.drop xs.length).toArray:=by
   apply Array.ext'
   show cur.toList=xs++cur.toList.drop xs.length
   rw [hx]
   exact (congrArg (· ++cur.toList.drop (n*sz)) h4).symm ▸ (List.take_append_drop _ _).symm
  refine ⟨[g],⟨hx, .inr ⟨g,cap,cur.toList.drop xs.length,rfl,rfl,h1,h2, ?_,by rw [← e1];exact hg⟩⟩,by simpa using hb⟩
  have:=congrArg Array.size e1
  simp only [List.size_toArray] at this
  omega
theorem RowAt.owns {w:World} {base:Nat} {e:TypeId} {sz n:Nat} {v:Value} {xs:List Value} {S:List Nat} (h:RowAt e sz v n xs S w) (hb:∀ x∈S,base≤x):w.ownsRow base e sz v n xs:=by
 obtain ⟨h0,⟨rfl,rfl,rfl⟩ | ⟨g,cap,pad,rfl,rfl,h2,h3,h4,h5⟩⟩:=h
 ·have:xs=[]:=List.eq_nil_of_length_eq_zero (by simpa using h0)
  subst this;exact World.ownsRow_nil _ _ _ _
 ·exact ⟨h0, .inr ⟨g,cap,_,rfl,hb g (by simp),h5,h2,h3,by simpa using h4,by rw [← h0];simp⟩⟩
section
variable {P:Program} {ops:Array Oper} {Q:Exit→Act→World→Prop} {a:Act} {w w0:World} {rest:List Oper} {o:Oper} {K:Act→World→Prop} {T:List Nat} {l:List Ent}
theorem Hp.recast (H:Hp T w0 w l) {e e1:Ent} {l1:List Ent} (h:Rep e e1 l l1) (ho:e1.own=e.own) (hk:e1.ok T w0 w):Hp T w0 w l1:=
 ⟨H.fr,fun x hx=>by
  rcases h.of H.nodup x hx with rfl | ⟨h1,_⟩
  ·exact hk
  ·exact H.ok x h1,h.nodup H.nodup (by
   rw [ho]
   have hn:=H.nodup
   have:List.Sublist e.own (l.flatMap Ent.own):=by
    have hm:=h.mem
    clear h hk hn ho
    induction l with
    | nil=>cases hm
    | cons y l ih=>
     rw [List.flatMap_cons]
     cases hm with
     | head=>exact List.sublist_append_left _ _
     | tail _ hm=>exact (ih ⟨H.fr,fun x hx=>H.ok x (List.mem_cons_of_mem _ hx),(List.nodup_append.1 (by simpa using H.nodup)).2.1⟩ hm).trans (List.sublist_append_right _ _)
   exact this.nodup hn) (fun x hx=> .inl (ho ▸ hx))⟩
theorem c_apr (H:Hp T w0 w l) {t:TypeId} {s x:Operand} (ho:o.op= .call {callee:= .builtin .append,args:=#[s,x],argTypes:=#[t,t]})
 {v:Value} (hs:a.eval s=v) {q:Option Addr} {m c:Nat} (hx:a.eval x= .slice q m c) {e:TypeId} {z:List Value} {sz by':Nat} [hsi:Si P t e z sz by']
 (k:Nat) {S:List Nat} {n:Nat} {xs:List Value} {f:Ent→List Ent} [i:Oi k S (RowAt e sz v n xs S) l f]
 {news:List Value} (hr:Rd w (.slice q m c) m news) (hl:news.length=m*sz) (h1:∀ u∈news,u.oneCell'=true)
 (h48:(n+m)*by'≤140737488355328) (h63:n+m≤maxLen)
 (h:∀ v' w' S',Fr S w w'→Hp T w0 w' (f (.obj k S' (RowAt e sz v' (n+m) (xs++news) S')))→K (a.put o.dst v') w'):o.wp P a w K Q:=by
 have hob:=H.ob k
 obtain ⟨h0,⟨rfl,rfl,rfl⟩ | ⟨g,cap,pad,rfl,rfl,h2,h3,h4,h5⟩⟩:=hob
 ·have hxs:xs=[]:=List.eq_nil_of_length_eq_zero (by simpa using h0)
  subst hxs
  by_cases hm:m=0
  ·subst hm
   have hn:news=[]:=List.eq_nil_of_length_eq_zero (by simpa using hl)
   subst hn
   exact la_appendNone H ho hs hx hsi.h (fun w' k1 H1=>h _ w' [] k1 (by
    have e1:f (.obj k [] (RowAt e sz (.slice none 0 0) 0 [] []))=l:=Rep.same (i.h _)
    simpa [e1] using H1))
  ·obtain ⟨ad,rfl⟩:∃ ad,q=some ad:=by
    rcases hr with ⟨h6,_⟩ | ⟨ad,c',h6,_⟩
    ·exact absurd h6 hm
    ·injection h6 with h7 _ _;exact ⟨ad,h7⟩
   refine la_appendNil H ho hs hx hsi.h hsi.z hr hl (by omega) (by simpa using h48) (by unfold maxLen at h63;omega) (fun g w' cap pad hg hc hcm hpl hf H1=>h _ w' [g] hf ?_)
   refine H.upd' (S':=[g]) (i.h _) hf (Q':=RowAt e sz _ (0+m) ([]++news) [g]) ?_ RowAt.firm (fun x hx=> .inr (by simp only [List.mem_singleton] at hx;subst hx;exact hg.2))
   refine ⟨by simpa using hl, .inr ⟨g,cap,pad,rfl,by rw [Nat.zero_add],by omega,hcm,by simpa using hpl, ?_⟩⟩
   simpa using H1.get (.head _)
 ·by_cases hm:m=0
  ·subst hm
   have hn:news=[]:=List.eq_nil_of_length_eq_zero (by simpa using hl)
   subst hn
   exact la_appendZero H ho hs h2 hx hsi.h (fun w' k1 H1=>h _ w' [g] (k1.mono (by simp)) (by
    rw [List.append_nil,Nat.add_zero,← i.e];exact H1))
  ·obtain ⟨ad,rfl⟩:∃ ad,q=some ad:=by
    rcases hr with ⟨h6,_⟩ | ⟨ad,c',h6,_⟩
    ·exact absurd h6 hm
    ·injection h6 with h7 _ _;exact ⟨ad,h7⟩
   have H':Hp T w0 w (f (.blk g (xs++pad) e)):=H.recast (i.h _) rfl ⟨h5,H.home k g (by simp)⟩
   refine la_appendOwn H' ho hs hx hsi.h hsi.z (fun g cs1=>i.r _ _) (List.prefix_append _ _) h0 h4 h3 hr hl h1 (by omega) h48 h63 (fun g' w' cap' pad' hg hc hcm hpl hf H1=>h _ w' [g'] hf ?_)
   have hm1:=(i.r (.blk g' (xs++news++pad') e) (.obj k [] (fun _ =>True))).mem
   refine H1.recast (i.r _ _) rfl ⟨⟨by rw [List.length_append,h0,hl,Nat.add_mul], .inr ⟨g',cap',pad',rfl,rfl,hc,hcm,hpl,H1.get hm1⟩⟩,RowAt.firm,fun x hx=> ?_⟩
   simp only [List.mem_singleton] at hx
   subst hx
   exact (H1.ok _ hm1).2
theorem Hp.newRow (H:Hp T w0 w l) (k:Nat) {e:TypeId} {sz:Nat}:Hp T w0 w (.obj k [] (RowAt e sz (.slice none 0 0) 0 [] [])::l):=H.pushObj k (RowAt.nil w) RowAt.firm (by simp) (by simp)
theorem Hp.rowNew (H:Hp T w0 w l) (k:Nat) {w':World} (hF:Fr [] w w') {e:TypeId} {sz n:Nat} {v:Value} {xs:List Value} (h:w'.ownsRow w.heap.size e sz v n xs):∃ S,Hp T w0 w' (.obj k S (RowAt e sz v n xs S)::l):=by
 obtain ⟨S,h1,h2⟩:=RowAt.of_owns h
 exact ⟨S,H.born k hF h1 RowAt.firm h2⟩
end
end Go.Proofs.YtoiebebjgnpkmaaGreatDoor
