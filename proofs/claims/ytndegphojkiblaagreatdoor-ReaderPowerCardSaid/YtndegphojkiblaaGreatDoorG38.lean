/- Towards the last file's theorem: part 38. -/
import Derived.Test.YtndegphojkiblaaGreatDoorG37
set_option linter.unusedSimpArgs false
set_option linter.unusedVariables false
set_option maxHeartbeats 4000000
namespace Go.Proofs.YtndegphojkiblaaGreatDoor
section
set_option maxRecDepth 100000
open Go.RowKit
namespace AI
def sm51 : Summ := ⟨2,10,⟨[f 2 0 9,f 0 2 0],[(0,some c4)],[],[]⟩,[⟨[f 7 0 mx,f 0 7 18446744073709551615,f 10 0 1099511627776,f 0 10 0,f 14 0 8,f 0 14 0,f 17 0 8,f 0 17 0,f 20 0 8,f 0 20 0,f 23 0 8,f 0 23 0,f 26 0 8,f 0 26 0,f 29 0 8,f 0 29 0,f 32 0 8,f 0 32 0,f 35 0 8,f 0 35 0],(g 4 8 c4),[],[]⟩]⟩
def an51 : Ann := .b (.l ⟨[],[⟨[f 0 7 0],[],[],[]⟩],7,true,0,8⟩ (.e)) (.b (.e) (.b (.e) (.b (.l ⟨[],[⟨[f 0 20 0,f 0 23 0,f 0 26 0,f 0 29 0,f 0 32 0,f 0 35 0,f 0 38 0,f 0 41 0,f 20 11 0,f 20 16 0,f 23 11 0,f 23 16 0,f 26 11 0,f 26 16 0,f 29 11 0,f 29 16 0,f 32 11 0,f 32 16 0,f 35 11 0,f 35 16 0,f 38 11 0,f 38 16 0,f 41 11 0,f 41 16 0],(g 6 8 c4),[],[]⟩],16,true,0,7⟩ (.b (.j [] [⟨[f 0 50 0,f 0 53 0,f 0 56 0,f 0 59 0,f 0 62 0,f 0 65 0,f 0 68 0,f 0 71 0,f 50 20 1,f 53 23 1,f 56 26 1,f 59 29 1,f 62 32 1,f 65 35 1,f 68 38 1,f 71 41 1],(g 16 8 c4),[],[]⟩] (.e) (.e)) (.e))) (.e))))
theorem so51 : sm51.ok F51 := soK [(47,sm47),(46,sm46),(49,sm49),(50,sm50)] [(47,F47),(46,F46),(49,F49),(50,F50)] an51 (by kernel_rfl) (by kernel_rfl) ⟨tbk rfl so47,tbk rfl so46,tbk rfl so49,tbk rfl so50,trivial⟩
def sm69 : Summ := ⟨1,1,⟨[f 2 0 1,f 0 2 (-1)],[(0,some [.int .u64 0 7])],[],[]⟩,[⟨[f 5 0 12,f 0 5 (-12)],[(1,some [.int .u8 0 255])],[],[]⟩]⟩
def an69 : Ann := .b (.l ⟨[],[⟨[f 4 0 0,f 0 4 0,f 8 0 0,f 0 8 0],[(2,none)],[],[]⟩,⟨[f 0 4 (-1),f 8 0 12,f 0 8 (-12)],[(2,some [.int .u8 0 255])],[],[]⟩],4,true,0,0⟩ (.e)) (.e)
theorem so69 : sm69.ok F69 := soK [(42,sm42),(41,sm41)] [(42,F42),(41,F41)] an69 (by kernel_rfl) (by kernel_rfl) ⟨tbk rfl so42,tbk rfl so41,trivial⟩
def sm71 : Summ := ⟨3,1,⟨[],[(2,some c5)],[],[]⟩,[⟨[],[],[(3,false)],[]⟩,⟨[f 8 0 256],[],[(3,true)],[]⟩]⟩
def an71 : Ann := .b (.e) (.b (.e) (.b (.l ⟨[],[⟨[f 0 13 0],[],[],[]⟩],13,true,0,255⟩ (.e)) (.e)))
def tb71 : Nat → Option Summ := tbl [(70,sm70)]
theorem ch71 : fcheck tb71 fir71 an71 sm71 [0] = true := by kernel_rfl
theorem so71 : sm71.ok F71 := fcheck_ok ch71 (callsOk (cs := [(70,F70)]) (by kernel_rfl) ⟨tbk rfl so70,trivial⟩)
def sm73 : Summ := ⟨3,2,⟨[],[],[],[]⟩,[⟨[f 14 0 16,f 0 14 0],[(4,some [.int .u8 0 255])],[],[]⟩]⟩
def an73 : Ann := .e
theorem so73 : sm73.ok F73 := soK [(39,sm39),(42,sm42),(41,sm41)] [(39,F39),(42,F42),(42,F42),(42,F42),(41,F41)] an73 (by kernel_rfl) (by kernel_rfl) ⟨tbk rfl so39,tbk rfl so42,tbk rfl so42,tbk rfl so42,tbk rfl so41,trivial⟩
def sm74 : Summ := ⟨4,2,⟨[f 11 0 30,f 0 11 0],[(3,some [.int .u8 0 255])],[],[]⟩,[⟨[f 17 0 4128,f 0 17 0],[(5,some [.int .u8 0 255])],[],[]⟩]⟩
def an74 : Ann := .b (.e) (.b (.e) (.b (.e) (.b (.l ⟨[],[⟨[f 68 0 4128,f 0 68 (-24)],[(22,some [.int .u8 0 255])],[],[]⟩],68,true,0,4119⟩ (.e)) (.e))))
theorem so74 : sm74.ok F74 := soK [(43,sm43),(42,sm42),(41,sm41),(44,sm44)] [(43,F43),(42,F42),(42,F42),(42,F42),(41,F41),(44,F44)] an74 (by kernel_rfl) (by kernel_rfl) ⟨tbk rfl so43,tbk rfl so42,tbk rfl so42,tbk rfl so42,tbk rfl so41,tbk rfl so44,trivial⟩
def sm75 : Summ := ⟨1,2,⟨[f 2 0 8],[(0,some c4)],[],[]⟩,[⟨[f 8 0 192,f 0 8 0],[(2,some [.int .u8 0 255])],[],[]⟩]⟩
def an75 : Ann := .b (.e) (.b (.l ⟨[],[⟨[f 10 0 0,f 0 10 0,f 14 0 0,f 0 14 0],[(4,none)],[],[]⟩,⟨[f 10 0 1,f 0 10 (-1),f 14 0 24,f 0 14 (-24)],[(4,some [.int .u8 0 255])],[],[]⟩,⟨[f 10 0 2,f 0 10 (-2),f 14 0 48,f 0 14 (-48)],[(4,some [.int .u8 0 255])],[],[]⟩,⟨[f 10 0 3,f 0 10 (-3),f 14 0 72,f 0 14 (-72)],[(4,some [.int .u8 0 255])],[],[]⟩,⟨[f 10 0 4,f 0 10 (-4),f 14 0 96,f 0 14 (-96)],[(4,some [.int .u8 0 255])],[],[]⟩,⟨[f 10 0 5,f 0 10 (-5),f 14 0 120,f 0 14 (-120)],[(4,some [.int .u8 0 255])],[],[]⟩,⟨[f 0 10 (-6),f 14 0 144,f 0 14 (-144)],[(4,some [.int .u8 0 255])],[],[]⟩,⟨[f 0 10 (-7),f 14 0 168,f 0 14 (-168)],[(4,some [.int .u8 0 255])],[],[]⟩,⟨[f 0 10 (-8),f 14 0 192,f 0 14 (-192)],[(4,some [.int .u8 0 255])],[],[]⟩],10,true,0,7⟩ (.e)) (.e))
theorem so75 : sm75.ok F75 := soK [(48,sm48),(42,sm42),(41,sm41)] [(48,F48),(42,F42),(42,F42),(42,F42),(42,F42),(41,F41)] an75 (by kernel_rfl) (by kernel_rfl) ⟨tbk rfl so48,tbk rfl so42,tbk rfl so42,tbk rfl so42,tbk rfl so42,tbk rfl so41,trivial⟩
def sm76 : Summ := ⟨5,1,⟨[f 2 0 8,f 0 2 0,f 4 0 7,f 0 4 0,f 7 0 3,f 0 7 0,f 10 0 1048576,f 0 10 (-16),f 13 0 30,f 0 13 0],[(0,some c4)],[],[]⟩,[⟨[f 17 0 9,f 0 17 (-1)],[(5,some c4)],[],[]⟩]⟩
def an76 : Ann := .b (.l ⟨[0],[⟨[f 0 26 0,f 26 17 0,f 26 22 0],[(8,some c4)],[(6,false)],[]⟩,⟨[f 0 26 (-1),f 26 17 1,f 26 22 1],[(8,some c4)],[(6,true)],[]⟩],22,true,0,7⟩ (.b (.j [0] [⟨[f 0 38 (-1),f 38 22 2],[(12,some c4)],[(11,true)],[]⟩,⟨[f 0 38 0,f 38 22 1],[(12,some c4)],[(11,false)],[]⟩] (.e) (.e)) (.e))) (.e)
theorem so76 : sm76.ok F76 := soK [(46,sm46)] [(46,F46)] an76 (by kernel_rfl) (by kernel_rfl) ⟨tbk rfl so46,trivial⟩
def sm77 : Summ := ⟨2,1,⟨[f 2 0 8,f 0 2 0],[(0,some c4)],[],[]⟩,[⟨[f 8 0 8,f 0 8 0],[(2,some c4)],[],[]⟩]⟩
def an77 : Ann := .b (.l ⟨[],[⟨[f 0 14 0,f 14 8 0,f 14 10 0],[(4,some c4)],[],[]⟩],10,true,0,7⟩ (.e)) (.e)
theorem so77 : sm77.ok F77 := soK [(46,sm46)] [(46,F46)] an77 (by kernel_rfl) (by kernel_rfl) ⟨tbk rfl so46,trivial⟩
def sm79 : Summ := ⟨10,1,⟨[f 2 0 8,f 5 0 8,f 8 0 8,f 11 0 8,f 14 0 8,f 17 0 8,f 20 0 8,f 23 0 8],(g 0 8 c4),[],[]⟩,[⟨[f 32 0 8,f 0 32 0],[(10,some c4)],[],[]⟩]⟩
def an79 : Ann := .j [] [⟨[f 32 0 64,f 0 32 0],[(10,some c4)],[],[]⟩] (.l ⟨[],[⟨[f 31 0 0,f 0 31 0,f 35 0 0,f 0 35 0],[(11,none)],[],[]⟩,⟨[f 31 0 1,f 0 31 (-1),f 35 0 8,f 0 35 0],[(11,some c4)],[],[]⟩,⟨[f 31 0 2,f 0 31 (-2),f 35 0 16,f 0 35 0],[(11,some c4)],[],[]⟩,⟨[f 31 0 3,f 0 31 (-3),f 35 0 24,f 0 35 0],[(11,some c4)],[],[]⟩,⟨[f 31 0 4,f 0 31 (-4),f 35 0 32,f 0 35 0],[(11,some c4)],[],[]⟩,⟨[f 31 0 5,f 0 31 (-5),f 35 0 40,f 0 35 0],[(11,some c4)],[],[]⟩,⟨[f 0 31 (-6),f 35 0 48,f 0 35 0],[(11,some c4)],[],[]⟩,⟨[f 0 31 (-7),f 35 0 56,f 0 35 0],[(11,some c4)],[],[]⟩,⟨[f 0 31 (-8),f 35 0 64,f 0 35 0],[(11,some c4)],[],[]⟩],31,true,0,7⟩ (.e)) (.e)
theorem so79 : sm79.ok F79 := soK [(52,sm52),(46,sm46)] [(52,F52),(46,F46)] an79 (by kernel_rfl) (by kernel_rfl) ⟨tbk rfl so52,tbk rfl so46,trivial⟩
def sm80 : Summ := ⟨14,1,⟨[f 14 0 8,f 17 0 8,f 20 0 8,f 23 0 8,f 26 0 8,f 29 0 8,f 32 0 8,f 35 0 8],(g 4 8 c4),[],[]⟩,[⟨[],[],[(14,false)],[]⟩,⟨[f 40 0 1099511627776,f 10 0 1048576,f 0 10 (-16),f 7 0 3,f 0 7 (-1),f 0 4 0,f 0 1 (-1)],[],[(14,true)],[]⟩]⟩
def an80 : Ann := .b (.e) (.b (.e) (.j [0] [⟨[],[],[(15,true)],[]⟩,⟨[f 40 0 1099511627776,f 10 0 1048576,f 0 10 (-16)],[],[(15,false)],[]⟩] (.e) (.e)))
def tb80 : Nat → Option Summ := tbl [(52,sm52),(79,sm79),(58,sm58)]
theorem ch80 : fcheck tb80 fir80 an80 sm80 [0] = true := by kernel_rfl
theorem so80 : sm80.ok F80 := fcheck_ok ch80 (callsOk (cs := [(52,F52),(79,F79),(58,F58)]) (by kernel_rfl) ⟨tbk rfl so52,tbk rfl so79,tbk rfl so58,trivial⟩)
def sm95 : Summ := ⟨11,2,⟨[f 32 0 8],[(10,some c4)],[],[]⟩,[⟨[f 38 0 244,f 0 38 0],[(12,some [.int .u8 0 255])],[],[]⟩]⟩
def an95 : Ann := .b (.e) (.b (.l ⟨[],[⟨[f 82 0 0,f 0 82 0,f 86 0 20,f 0 86 (-20)],[(28,some [.int .u8 0 255])],[],[]⟩,⟨[f 82 0 1,f 0 82 (-1),f 86 0 24,f 0 86 (-24)],[(28,some [.int .u8 0 255])],[],[]⟩,⟨[f 82 0 2,f 0 82 (-2),f 86 0 28,f 0 86 (-28)],[(28,some [.int .u8 0 255])],[],[]⟩,⟨[f 82 0 3,f 0 82 (-3),f 86 0 32,f 0 86 (-32)],[(28,some [.int .u8 0 255])],[],[]⟩,⟨[f 0 82 (-4),f 86 0 36,f 0 86 (-36)],[(28,some [.int .u8 0 255])],[],[]⟩,⟨[f 0 82 (-5),f 86 0 40,f 0 86 (-40)],[(28,some [.int .u8 0 255])],[],[]⟩,⟨[f 0 82 (-6),f 86 0 44,f 0 86 (-44)],[(28,some [.int .u8 0 255])],[],[]⟩],82,true,0,5⟩ (.e)) (.e))
theorem so95 : sm95.ok F95 := soK [(67,sm67),(42,sm42),(75,sm75),(41,sm41)] [(67,F67),(42,F42),(42,F42),(42,F42),(42,F42),(42,F42),(75,F75),(42,F42),(41,F41)] an95 (by kernel_rfl) (by kernel_rfl) ⟨tbk rfl so67,tbk rfl so42,tbk rfl so42,tbk rfl so42,tbk rfl so42,tbk rfl so42,tbk rfl so75,tbk rfl so42,tbk rfl so41,trivial⟩
def sm96 : Summ := ⟨4,1,⟨[f 4 0 0,f 12 0 9],[(2,some c5)],[],[]⟩,[⟨[f 13 0 13,f 0 13 (-1)],[],[],[]⟩,⟨[f 13 0 0,f 0 13 0,f 4 0 (-1),f 0 12 (-1),f 8 0 256],[],[],[]⟩]⟩
def an96 : Ann := .e
theorem so96 : sm96.ok F96 := soK [(71,sm71),(34,sm34)] [(71,F71),(34,F34)] an96 (by kernel_rfl) (by kernel_rfl) ⟨tbk rfl so71,tbk rfl so34,trivial⟩
def sm97 : Summ := ⟨3,1,⟨[f 5 0 2097152,f 0 5 0,f 8 0 1],[(1,some [.int .u8 0 255]),(2,some c2)],[],[]⟩,[⟨[f 11 0 2097152,f 0 11 0],[(3,some [.int .u8 0 255])],[],[]⟩]⟩
def an97 : Ann := .b (.e) (.b (.l ⟨[],[⟨[f 17 0 2097152,f 0 17 0,f 0 19 0],[(5,some [.int .u8 0 255])],[],[]⟩],19,true,0,0⟩ (.e)) (.e))
theorem so97 : sm97.ok F97 := soK [(70,sm70),(33,sm33)] [(70,F70),(33,F33)] an97 (by kernel_rfl) (by kernel_rfl) ⟨tbk rfl so70,tbk rfl so33,trivial⟩
def sm98 : Summ := ⟨10,1,⟨[f 2 0 8,f 5 0 8,f 8 0 8,f 11 0 8,f 14 0 8,f 17 0 8,f 20 0 8,f 23 0 8],(g 0 8 c4),[],[]⟩,[⟨[],[],[],[]⟩]⟩
def an98 : Ann := .e
theorem so98 : sm98.ok F98 := soK [(79,sm79)] [(79,F79)] an98 (by kernel_rfl) (by kernel_rfl) ⟨tbk rfl so79,trivial⟩
def sm99 : Summ := ⟨11,5,⟨[f 2 0 8,f 5 0 8,f 8 0 8,f 11 0 8,f 14 0 8,f 17 0 8,f 20 0 8,f 23 0 8],(g 0 8 c4),[],[]⟩,[⟨[f 40 0 3,f 0 40 0,f 46 0 30,f 0 46 0],[],[],[]⟩]⟩
def an99 : Ann := .e
theorem so99 : sm99.ok F99 := soK [(79,sm79),(45,sm45)] [(79,F79),(45,F45)] an99 (by kernel_rfl) (by kernel_rfl) ⟨tbk rfl so79,tbk rfl so45,trivial⟩
def sm100 : Summ := ⟨16,15,⟨[f 1 0 8,f 4 0 0,f 14 0 8,f 0 14 0,f 17 0 8,f 0 17 0,f 20 0 8,f 0 20 0,f 23 0 8,f 0 23 0,f 26 0 8,f 0 26 0,f 29 0 8,f 0 29 0,f 32 0 8,f 0 32 0,f 35 0 8,f 0 35 0,f 37 0 mx,f 0 37 18446744073709551615,f 0 40 0,f 0 46 (-2)],(g 4 8 c4),[],[]⟩,[⟨[f 52 0 0,f 0 52 0,f 55 0 0,f 0 55 0,f 58 0 0,f 0 58 0,f 61 0 0,f 0 61 0,f 65 0 0,f 0 65 0,f 68 0 0,f 0 68 0,f 71 0 0,f 0 71 0,f 74 0 0,f 0 74 0,f 77 0 0,f 0 77 0,f 80 0 0,f 0 80 0,f 83 0 0,f 0 83 0,f 86 0 0,f 0 86 0,f 88 0 0,f 0 88 0,f 91 0 0,f 0 91 0],[(21,none),(22,none),(23,none),(24,none),(25,none),(26,none),(27,none),(28,none)],[],[]⟩,⟨[f 52 0 8,f 0 52 (-1),f 55 0 0,f 0 55 0,f 0 58 (-2),f 61 0 1048576,f 0 61 (-16),f 65 0 8,f 0 65 0,f 68 0 8,f 0 68 0,f 71 0 8,f 0 71 0,f 74 0 8,f 0 74 0,f 77 0 8,f 0 77 0,f 80 0 8,f 0 80 0,f 83 0 8,f 0 83 0,f 86 0 8,f 0 86 0,f 88 0 mx,f 0 88 18446744073709551615,f 91 0 1099511627776,f 0 91 0,f 58 46 0],(g 21 8 c4),[],[]⟩]⟩
def an100 : Ann := .e
theorem so100 : sm100.ok F100 := soK [(80,sm80)] [(80,F80)] an100 (by kernel_rfl) (by kernel_rfl) ⟨tbk rfl so80,trivial⟩
def sm101 : Summ := ⟨14,15,⟨[f 1 0 8,f 4 0 0,f 14 0 8,f 0 14 0,f 17 0 8,f 0 17 0,f 20 0 8,f 0 20 0,f 23 0 8,f 0 23 0,f 26 0 8,f 0 26 0,f 29 0 8,f 0 29 0,f 32 0 8,f 0 32 0,f 35 0 8,f 0 35 0,f 37 0 mx,f 0 37 18446744073709551615,f 0 40 0],(g 4 8 c4),[],[]⟩,[⟨[f 49 0 0,f 0 49 0,f 52 0 3,f 0 52 0,f 55 0 1048576,f 0 55 0,f 59 0 8,f 62 0 8,f 65 0 8,f 68 0 8,f 71 0 8,f 74 0 8,f 77 0 8,f 80 0 8,f 82 0 mx,f 0 82 18446744073709551615,f 85 0 1099511627776,f 0 85 0],(g 19 8 c4),[],[]⟩]⟩
def an101 : Ann := .e
theorem so101 : sm101.ok F101 := soK [(100,sm100)] [(100,F100)] an101 (by kernel_rfl) (by kernel_rfl) ⟨tbk rfl so100,trivial⟩
def sm102 : Summ := ⟨14,15,⟨[f 1 0 8,f 4 0 0,f 14 0 8,f 0 14 0,f 17 0 8,f 0 17 0,f 20 0 8,f 0 20 0,f 23 0 8,f 0 23 0,f 26 0 8,f 0 26 0,f 29 0 8,f 0 29 0,f 32 0 8,f 0 32 0,f 35 0 8,f 0 35 0,f 37 0 mx,f 0 37 18446744073709551615,f 0 40 0],(g 4 8 c4),[],[]⟩,[⟨[f 46 0 8,f 0 46 0,f 49 0 0,f 0 49 0,f 52 0 2,f 0 52 0,f 55 0 1048576,f 0 55 0,f 59 0 8,f 62 0 8,f 65 0 8,f 68 0 8,f 71 0 8,f 74 0 8,f 77 0 8,f 80 0 8,f 82 0 mx,f 0 82 18446744073709551615,f 85 0 1099511627776,f 0 85 0],(g 19 8 c4),[],[]⟩]⟩
def an102 : Ann := .e
theorem so102 : sm102.ok F102 := soK [(100,sm100)] [(100,F100)] an102 (by kernel_rfl) (by kernel_rfl) ⟨tbk rfl so100,trivial⟩
def sm103 : Summ := ⟨4,1,⟨[],[(3,some c8)],[(2,false)],[]⟩,[⟨[],[],[(4,false)],[]⟩,⟨[f 11 0 8,f 0 11 (-1)],[],[(4,true)],[]⟩]⟩
def an103 : Ann := .b (.e) (.b (.e) (.b (.l ⟨[],[⟨[f 0 19 0],[],[],[]⟩],19,true,0,7⟩ (.b (.j [] [⟨[],[],[],[]⟩] (.e) (.e)) (.e))) (.e)))
def tb103 : Nat → Option Summ := tbl [(44,sm44),(80,sm80),(98,sm98)]
theorem ch103 : fcheck tb103 fir103 an103 sm103 [0] = true := by kernel_rfl
theorem so103 : sm103.ok F103 := fcheck_ok ch103 (callsOk (cs := [(44,F44),(80,F80),(44,F44),(98,F98)]) (by kernel_rfl) ⟨tbk rfl so44,tbk rfl so80,tbk rfl so44,tbk rfl so98,trivial⟩)
def sm104 : Summ := ⟨2,4,⟨[f 1 0 1,f 0 1 (-1),f 4 0 9000,f 0 4 (-9000)],[],[],[]⟩,[⟨[f 10 0 0,f 0 10 0,f 13 0 0,f 0 13 0,f 17 0 0,f 0 17 0],[(5,none)],[],[]⟩,⟨[f 10 0 1,f 0 10 (-1),f 13 0 9000,f 0 13 (-9000),f 17 0 1,f 0 17 (-1)],[(5,some c7)],[],[]⟩]⟩
def an104 : Ann := .e
theorem so104 : sm104.ok F104 := soK [(57,sm57),(103,sm103)] [(57,F57),(103,F103)] an104 (by kernel_rfl) (by kernel_rfl) ⟨tbk rfl so57,tbk rfl so103,trivial⟩
def sm105 : Summ := ⟨1,1,⟨[f 2 0 4,f 0 2 (-4)],[(0,some c0)],[],[(0,[0])]⟩,[⟨[f 5 0 6,f 0 5 (-6)],[(1,some c0)],[],[]⟩]⟩
def an105 : Ann := .e
theorem so105 : sm105.ok F105 := soK [(94,sm94),(60,sm60)] [(94,F94),(60,F60)] an105 (by kernel_rfl) (by kernel_rfl) ⟨tbk rfl so94,tbk rfl so60,trivial⟩
def sm107 : Summ := ⟨4,1,⟨[],[(3,some c8)],[(2,false)],[]⟩,[⟨[],[],[],[]⟩]⟩
def an107 : Ann := .b (.e) (.b (.e) (.b (.l ⟨[],[⟨[f 0 19 0],[],[],[]⟩],19,true,0,7⟩ (.b (.j [] [⟨[],[],[],[]⟩] (.e) (.e)) (.e))) (.e)))
theorem so107 : sm107.ok F107 := soK [(44,sm44),(80,sm80),(98,sm98)] [(44,F44),(80,F80),(44,F44),(98,F98)] an107 (by kernel_rfl) (by kernel_rfl) ⟨tbk rfl so44,tbk rfl so80,tbk rfl so44,tbk rfl so98,trivial⟩
def sm109 : Summ := ⟨4,4,⟨[⟨1,0,0⟩,⟨0,1,0⟩,⟨4,0,0⟩,⟨0,4,1⟩,⟨0,8,0⟩,⟨12,0,9⟩],[(2,some c1)],[],[]⟩,[⟨[⟨16,0,0⟩,⟨0,16,0⟩,⟨19,0,0⟩,⟨0,19,0⟩],[(7,none)],[],[]⟩,⟨[⟨16,0,0⟩,⟨0,16,0⟩,⟨19,0,-1⟩,⟨0,19,1⟩,⟨23,8,1⟩,⟨4,0,-1⟩,⟨8,0,255⟩],[(7,some c1)],[],[]⟩]⟩
def an109 : Ann := .e
theorem so109 : sm109.ok F109 := soK [(96,sm96),(32,sm32),(31,sm10900031),(30,sm30)] [(96,F96),(32,F32),(31,F31),(30,F30)] an109 (by kernel_rfl) (by kernel_rfl) ⟨tbk rfl so96,tbk rfl so32,tbk rfl so10900031,tbk rfl so30,trivial⟩
def sm110 : Summ := ⟨4,2,⟨[f 4 0 0,f 12 0 9],[(2,some c5)],[],[]⟩,[⟨[f 16 0 13,f 0 16 (-1)],[],[],[]⟩,⟨[f 0 13 0,f 16 0 0,f 0 16 0,f 13 8 (-1),f 4 0 (-1),f 0 12 (-1),f 8 0 256],[],[],[]⟩]⟩
def an110 : Ann := .e
theorem so110 : sm110.ok F110 := soK [(96,sm96),(32,sm32)] [(96,F96),(32,F32)] an110 (by kernel_rfl) (by kernel_rfl) ⟨tbk rfl so96,tbk rfl so32,trivial⟩
def sm111 : Summ := ⟨14,10,⟨[f 2 0 8,f 0 2 0,f 5 0 8,f 0 5 0,f 8 0 8,f 0 8 0,f 11 0 8,f 0 11 0,f 14 0 8,f 0 14 0,f 17 0 8,f 0 17 0,f 20 0 8,f 0 20 0,f 23 0 8,f 0 23 0,f 25 0 mx,f 0 25 18446744073709551615,f 28 0 2199023255552,f 0 28 0,f 31 0 7,f 0 31 0,f 34 0 3,f 0 34 0,f 40 0 30],(g 0 8 c4),[],[]⟩,[⟨[f 44 0 8,f 0 44 0,f 47 0 8,f 0 47 0,f 50 0 8,f 0 50 0,f 53 0 8,f 0 53 0,f 56 0 8,f 0 56 0,f 59 0 8,f 0 59 0,f 62 0 8,f 0 62 0,f 65 0 8,f 0 65 0,f 67 0 mx,f 0 67 18446744073709551615,f 70 0 2199023255552,f 0 70 0],(g 14 8 c4),[],[]⟩]⟩
def an111 : Ann := .e
theorem so111 : sm111.ok F111 := soK [(52,sm52),(47,sm47),(99,sm99),(44,sm44),(79,sm79),(76,sm76),(51,sm51)] [(52,F52),(47,F47),(99,F99),(44,F44),(79,F79),(76,F76),(51,F51)] an111 (by kernel_rfl) (by kernel_rfl) ⟨tbk rfl so52,tbk rfl so47,tbk rfl so99,tbk rfl so44,tbk rfl so79,tbk rfl so76,tbk rfl so51,trivial⟩
def sm112 : Summ := ⟨11,10,⟨[f 2 0 8,f 0 2 0,f 5 0 8,f 0 5 0,f 8 0 8,f 0 8 0,f 11 0 8,f 0 11 0,f 14 0 8,f 0 14 0,f 17 0 8,f 0 17 0,f 20 0 8,f 0 20 0,f 23 0 8,f 0 23 0,f 25 0 mx,f 0 25 18446744073709551615,f 28 0 2199023255552,f 0 28 0],(g 0 8 c4),[],[]⟩,[⟨[f 35 0 8,f 0 35 0,f 38 0 8,f 0 38 0,f 41 0 8,f 0 41 0,f 44 0 8,f 0 44 0,f 47 0 8,f 0 47 0,f 50 0 8,f 0 50 0,f 53 0 8,f 0 53 0,f 56 0 8,f 0 56 0,f 58 0 mx,f 0 58 18446744073709551615,f 61 0 2199023255552,f 0 61 0],(g 11 8 c4),[],[]⟩]⟩
def an112 : Ann := .e
theorem so112 : sm112.ok F112 := soK [(99,sm99),(44,sm44),(79,sm79),(77,sm77),(51,sm51)] [(99,F99),(44,F44),(79,F79),(77,F77),(44,F44),(51,F51)] an112 (by kernel_rfl) (by kernel_rfl) ⟨tbk rfl so99,tbk rfl so44,tbk rfl so79,tbk rfl so77,tbk rfl so44,tbk rfl so51,trivial⟩
def sm113 : Summ := ⟨15,15,⟨[f 4 0 0,f 14 0 8,f 0 14 0,f 17 0 8,f 0 17 0,f 20 0 8,f 0 20 0,f 23 0 8,f 0 23 0,f 26 0 8,f 0 26 0,f 29 0 8,f 0 29 0,f 32 0 8,f 0 32 0,f 35 0 8,f 0 35 0,f 37 0 mx,f 0 37 18446744073709551615,f 0 40 0,f 44 0 1],[(4,some c4),(5,some c4),(6,some c4),(7,some c4),(8,some c4),(9,some c4),(10,some c4),(11,some c4),(14,some [.int .u64 0 7])],[],[]⟩,[⟨[f 52 0 0,f 0 52 0,f 55 0 3,f 0 55 0,f 58 0 1048576,f 0 58 0,f 62 0 8,f 65 0 8,f 68 0 8,f 71 0 8,f 74 0 8,f 77 0 8,f 80 0 8,f 83 0 8,f 85 0 mx,f 0 85 18446744073709551615,f 88 0 2199023255552,f 0 88 0],(g 20 8 c4),[],[]⟩]⟩
def an113 : Ann := .b (.e) (.b (.e) (.b (.l ⟨[],[⟨[f 0 55 0,f 59 0 8,f 0 59 0,f 62 0 8,f 0 62 0,f 65 0 8,f 0 65 0,f 68 0 8,f 0 68 0,f 71 0 8,f 0 71 0,f 74 0 8,f 0 74 0,f 77 0 8,f 0 77 0,f 80 0 8,f 0 80 0,f 82 0 mx,f 0 82 18446744073709551615,f 85 0 2199023255552,f 0 85 0],(g 19 8 c4),[],[]⟩],55,true,0,0⟩ (.e)) (.e)))
theorem so113 : sm113.ok F113 := soK [(80,sm80),(112,sm112)] [(80,F80),(112,F112)] an113 (by kernel_rfl) (by kernel_rfl) ⟨tbk rfl so80,tbk rfl so112,trivial⟩
def sm114 : Summ := ⟨15,15,⟨[f 4 0 0,f 14 0 8,f 0 14 0,f 17 0 8,f 0 17 0,f 20 0 8,f 0 20 0,f 23 0 8,f 0 23 0,f 26 0 8,f 0 26 0,f 29 0 8,f 0 29 0,f 32 0 8,f 0 32 0,f 35 0 8,f 0 35 0,f 37 0 mx,f 0 37 18446744073709551615,f 0 40 0,f 44 0 1],[(4,some c4),(5,some c4),(6,some c4),(7,some c4),(8,some c4),(9,some c4),(10,some c4),(11,some c4),(14,some c3)],[],[]⟩,[⟨[f 52 0 0,f 0 52 0,f 55 0 0,f 0 55 0,f 58 0 0,f 0 58 0,f 62 0 0,f 65 0 0,f 68 0 0,f 71 0 0,f 74 0 0,f 77 0 0,f 80 0 0,f 83 0 0,f 85 0 0,f 0 85 0,f 88 0 0,f 0 88 0],[(20,none),(21,none),(22,none),(23,none),(24,none),(25,none),(26,none),(27,none)],[],[]⟩,⟨[f 52 0 0,f 0 52 0,f 55 0 1,f 0 55 (-1),f 58 0 mx,f 0 58 18446744073709551615,f 62 0 8,f 65 0 8,f 68 0 8,f 71 0 8,f 74 0 8,f 77 0 8,f 80 0 8,f 83 0 8,f 85 0 mx,f 0 85 18446744073709551615,f 88 0 2199023255552,f 0 88 0],(g 20 8 c4),[],[]⟩]⟩
def an114 : Ann := .b (.e) (.b (.l ⟨[],[⟨[f 0 55 0],[],[],[]⟩],55,true,0,0⟩ (.e)) (.b (.e) (.b (.e) (.b (.l ⟨[],[⟨[f 0 61 0,f 64 0 mx,f 0 64 18446744073709551615,f 68 0 8,f 0 68 0,f 71 0 8,f 0 71 0,f 74 0 8,f 0 74 0,f 77 0 8,f 0 77 0,f 80 0 8,f 0 80 0,f 83 0 8,f 0 83 0,f 86 0 8,f 0 86 0,f 89 0 8,f 0 89 0,f 91 0 mx,f 0 91 18446744073709551615,f 94 0 2199023255552,f 0 94 0],(g 22 8 c4),[],[]⟩],61,true,0,0⟩ (.e)) (.e)))))
theorem so114 : sm114.ok F114 := soK [(80,sm80),(43,sm43),(44,sm44),(112,sm112),(78,sm78),(111,sm111)] [(80,F80),(43,F43),(44,F44),(44,F44),(112,F112),(78,F78),(111,F111)] an114 (by kernel_rfl) (by kernel_rfl) ⟨tbk rfl so80,tbk rfl so43,tbk rfl so44,tbk rfl so44,tbk rfl so112,tbk rfl so78,tbk rfl so111,trivial⟩
def sm116 : Summ := ⟨4,15,⟨[],[(3,some c8)],[(2,false)],[]⟩,[⟨[f 19 0 0,f 29 0 0,f 0 29 0,f 32 0 0,f 0 32 0,f 35 0 0,f 0 35 0,f 38 0 0,f 0 38 0,f 41 0 0,f 0 41 0,f 44 0 0,f 0 44 0,f 47 0 0,f 0 47 0,f 50 0 0,f 0 50 0,f 52 0 0,f 0 52 0,f 0 55 0],[(9,none),(10,none),(11,none),(12,none),(13,none),(14,none),(15,none),(16,none)],[],[]⟩,⟨[f 19 0 0,f 29 0 8,f 0 29 0,f 32 0 8,f 0 32 0,f 35 0 8,f 0 35 0,f 38 0 8,f 0 38 0,f 41 0 8,f 0 41 0,f 44 0 8,f 0 44 0,f 47 0 8,f 0 47 0,f 50 0 8,f 0 50 0,f 52 0 mx,f 0 52 18446744073709551615,f 0 55 0],(g 9 8 c4),[],[]⟩]⟩
def an116 : Ann := .e
theorem so116 : sm116.ok F116 := soK [(103,sm103)] [(103,F103)] an116 (by kernel_rfl) (by kernel_rfl) ⟨tbk rfl so103,trivial⟩
def sm117 : Summ := ⟨5,1,⟨[f 0 11 0],[(3,some c8)],[(2,false)],[]⟩,[⟨[f 17 0 7],[(5,some [.int .i64 0 8])],[],[]⟩]⟩
def an117 : Ann := .b (.l ⟨[],[⟨[f 16 0 7,f 20 0 7,f 0 20 0,f 20 16 0],[(6,some [.int .i64 0 8])],[],[]⟩],16,true,0,6⟩ (.e)) (.e)
theorem so117 : sm117.ok F117 := soK [(103,sm103),(99,sm99)] [(103,F103),(99,F99)] an117 (by kernel_rfl) (by kernel_rfl) ⟨tbk rfl so103,tbk rfl so99,trivial⟩
def sm118 : Summ := ⟨18,5,⟨[f 16 0 0,f 0 16 0,f 19 0 3,f 0 19 0,f 22 0 mx,f 0 22 18446744073709551615,f 26 0 8,f 29 0 8,f 32 0 8,f 35 0 8,f 38 0 8,f 41 0 8,f 44 0 8,f 47 0 8,f 49 0 mx,f 0 49 18446744073709551615,f 52 0 2199023255552,f 0 52 0],[(3,some c8),(8,some c4),(9,some c4),(10,some c4),(11,some c4),(12,some c4),(13,some c4),(14,some c4),(15,some c4)],[(2,false)],[]⟩,[⟨[f 58 0 0,f 0 58 0,f 61 0 0,f 0 61 0,f 68 0 0,f 0 68 0],[(22,none)],[(21,false)],[]⟩,⟨[f 58 1 0,f 1 58 0,f 61 4 0,f 4 61 0,f 68 11 0,f 11 68 0],[(22,some c8)],[(21,false)],[]⟩]⟩
def an118 : Ann := .b (.e) (.b (.l ⟨[0],[⟨[f 0 70 0,f 74 65 0,f 65 74 0],[(24,some c8)],[],[]⟩],70,true,0,7⟩ (.e)) (.e))
def tb118 : Nat → Option Summ := tbl [(103,sm103),(107,sm107)]
theorem ch118 : fcheck tb118 fir118 an118 sm118 [3] = true := by kernel_rfl
theorem so118 : sm118.ok F118 := fcheck_ok ch118 (callsOk (cs := [(103,F103),(107,F107)]) (by kernel_rfl) ⟨tbk rfl so103,tbk rfl so107,trivial⟩)
def sm119 : Summ := ⟨4,1,⟨[],[(3,some c8)],[(2,false)],[]⟩,[⟨[],[],[],[]⟩]⟩
def an119 : Ann := .e
theorem so119 : sm119.ok F119 := soK [(103,sm103)] [(103,F103)] an119 (by kernel_rfl) (by kernel_rfl) ⟨tbk rfl so103,trivial⟩
def sm120 : Summ := ⟨4,5,⟨[],[(3,some c8)],[(2,false)],[]⟩,[⟨[f 0 13 (-1)],[(8,none)],[(7,false)],[]⟩,⟨[f 16 1 0,f 1 16 0,f 19 4 0,f 4 19 0,f 26 11 1,f 11 26 (-1),f 11 0 8,f 0 11 (-1)],[(8,some c8)],[(7,false)],[]⟩]⟩
def an120 : Ann := .e
def tb120 : Nat → Option Summ := tbl [(103,sm103),(119,sm119),(102,sm102),(57,sm57)]
theorem ch120 : fcheck tb120 fir120 an120 sm120 [3] = true := by kernel_rfl
theorem so120 : sm120.ok F120 := fcheck_ok ch120 (callsOk (cs := [(103,F103),(119,F119),(102,F102),(57,F57)]) (by kernel_rfl) ⟨tbk rfl so103,tbk rfl so119,tbk rfl so102,tbk rfl so57,trivial⟩)
def sm122 : Summ := ⟨1,2,⟨[f 2 0 4,f 0 2 (-4)],[(0,some c0)],[],[(0,[0])]⟩,[⟨[f 5 0 2,f 0 5 (-2)],[(1,some c0)],[],[]⟩]⟩
def an122 : Ann := .e
theorem so122 : sm122.ok F122 := soK [(26,sm26),(105,sm105)] [(26,F26),(105,F105)] an122 (by kernel_rfl) (by kernel_rfl) ⟨tbk rfl so26,tbk rfl so105,trivial⟩
def sm126 : Summ := ⟨5,13,⟨[f 4 0 3,f 0 4 0,f 7 0 8,f 10 0 4294967295,f 0 10 0,f 14 0 8,f 0 14 0],[(0,some [.int .u8 0 255]),(4,some c4)],[],[]⟩,[⟨[f 20 0 0,f 53 0 0],[(6,none),(17,none)],[],[]⟩,⟨[f 20 0 6,f 53 0 8],[(6,some c0),(17,some c4)],[],[]⟩]⟩
def an126 : Ann := .b (.e) (.b (.l ⟨[],[⟨[f 0 43 0,f 46 0 4294967295,f 0 46 0,f 49 0 4294967295,f 0 49 0,f 52 0 4294967295,f 0 52 0,f 55 0 4294967295,f 0 55 0,f 58 0 4294967295,f 0 58 0,f 61 0 4294967295,f 0 61 0,f 49 43 4294967293],[],[],[]⟩],43,true,0,5⟩ (.b (.j [] [⟨[f 67 0 0,f 0 67 0,f 70 0 4294967295,f 0 70 0,f 73 0 4294967293,f 0 73 0,f 76 0 4294967295,f 0 76 0,f 79 0 4294967295,f 0 79 0,f 82 0 4294967295,f 0 82 0,f 85 0 4294967295,f 0 85 0,f 43 0 0],[],[],[]⟩,⟨[f 67 0 5,f 70 0 4294967295,f 0 70 0,f 73 0 4294967295,f 0 73 0,f 76 0 4294967295,f 0 76 0,f 79 0 4294967295,f 0 79 0,f 82 0 4294967295,f 0 82 0,f 85 0 4294967295,f 0 85 0,f 43 67 0,f 0 43 (-1)],[],[],[]⟩] (.e) (.e)) (.e))) (.e))
theorem so126 : sm126.ok F126 := soK [(67,sm67),(2003,sm2003),(122,sm122),(38,sm38)] [(67,F67),(2003,F2003),(122,F122),(38,F38)] an126 (by kernel_rfl) (by kernel_rfl) ⟨tbk rfl so67,tbk rfl so2003,tbk rfl so122,tbk rfl so38,trivial⟩
def sm127 : Summ := ⟨6,2,⟨[f 4 0 0,f 12 0 9,f 13 0 0],[(2,some c1)],[],[]⟩,[⟨[f 20 0 2097152],[(6,some [.int .u8 0 255])],[],[]⟩]⟩
def an127 : Ann := .e
theorem so127 : sm127.ok F127 := soK [(110,sm110),(97,sm97)] [(110,F110),(97,F97)] an127 (by kernel_rfl) (by kernel_rfl) ⟨tbk rfl so110,tbk rfl so97,trivial⟩
def sm128 : Summ := ⟨4,2,⟨[f 4 0 0,f 12 0 9],[(2,some c1)],[],[]⟩,[⟨[],[],[],[]⟩]⟩
def an128 : Ann := .e
theorem so128 : sm128.ok F128 := soK [(110,sm110),(97,sm97)] [(110,F110),(97,F97)] an128 (by kernel_rfl) (by kernel_rfl) ⟨tbk rfl so110,tbk rfl so97,trivial⟩
def sm129 : Summ := ⟨4,4,⟨[f 1 0 0,f 0 1 0,f 4 0 0,f 0 4 1,f 12 0 9],[(2,some c1)],[],[]⟩,[⟨[f 16 0 0,f 0 16 0,f 19 0 0,f 0 19 1,f 23 0 510,f 0 23 0],[(7,some c1)],[],[]⟩]⟩
def an129 : Ann := .e
theorem so129 : sm129.ok F129 := soK [(110,sm110),(31,sm12900031)] [(110,F110),(31,F31)] an129 (by kernel_rfl) (by kernel_rfl) ⟨tbk rfl so110,tbk rfl so12900031,trivial⟩
def sm130 : Summ := ⟨4,4,⟨[f 1 0 0,f 0 1 0,f 4 0 0,f 0 4 1,f 12 0 9],[(2,some c5)],[],[]⟩,[⟨[f 16 0 0,f 0 16 0,f 19 0 0,f 0 19 0,f 23 0 0,f 0 23 0],[(7,none)],[],[]⟩,⟨[f 16 0 0,f 0 16 0,f 19 0 (-1),f 0 19 1,f 23 8 0,f 8 23 0,f 4 0 (-1)],[(7,some c5)],[],[]⟩]⟩
def an130 : Ann := .e
theorem so130 : sm130.ok F130 := soK [(110,sm110),(31,sm13000031),(97,sm97)] [(110,F110),(31,F31),(97,F97)] an130 (by kernel_rfl) (by kernel_rfl) ⟨tbk rfl so110,tbk rfl so13000031,tbk rfl so97,trivial⟩
def sm131 : Summ := ⟨7,4,⟨[f 1 0 0,f 0 1 0,f 4 0 (-1),f 0 4 1,f 8 0 256,f 0 10 0,f 13 0 2097152,f 0 13 0,f 17 0 1048576,f 0 17 0,f 10 8 (-1)],[(2,some c1),(5,some [.int .u8 0 255])],[(6,false)],[]⟩,[⟨[f 25 0 0,f 0 25 0,f 28 0 0,f 0 28 0,f 0 32 0],[(10,none)],[],[]⟩,⟨[f 25 0 0,f 0 25 0,f 28 0 (-1),f 0 28 1,f 32 8 0,f 8 32 0],[(10,some c5)],[],[]⟩]⟩
def an131 : Ann := .e
theorem so131 : sm131.ok F131 := soK [(97,sm97),(31,sm13100031)] [(97,F97),(97,F97),(108,F108),(31,F31)] an131 (by kernel_rfl) (by kernel_rfl) ⟨tbk rfl so97,tbk rfl so97,tbn rfl,tbk rfl so13100031,trivial⟩
def sm135 : Summ := ⟨5,4,⟨[f 1 0 0,f 0 1 0,f 4 0 0,f 0 4 1,f 12 0 9,f 14 0 4128,f 0 14 0],[(2,some c1),(4,some [.int .u8 0 255])],[],[]⟩,[⟨[f 19 0 0,f 0 19 0,f 22 0 0,f 0 22 0],[(8,none)],[],[]⟩,⟨[f 19 0 0,f 0 19 0,f 22 0 (-1),f 0 22 1,f 0 26 (-1),f 26 8 0,f 4 0 (-1),f 8 0 256],[(8,some c5)],[],[]⟩]⟩
def an135 : Ann := .e
theorem so135 : sm135.ok F135 := soK [(110,sm110),(97,sm97),(131,sm131)] [(110,F110),(97,F97),(131,F131)] an135 (by kernel_rfl) (by kernel_rfl) ⟨tbk rfl so110,tbk rfl so97,tbk rfl so131,trivial⟩
def sm138 : Summ := ⟨9,3,⟨[⟨1,0,0⟩,⟨0,1,0⟩,⟨4,0,0⟩,⟨0,4,1⟩,⟨8,0,512⟩,⟨0,8,0⟩,⟨10,0,1⟩,⟨0,10,0⟩,⟨13,0,9000⟩,⟨0,13,0⟩,⟨20,0,9⟩,⟨0,20,0⟩,⟨24,0,9⟩,⟨0,24,0⟩,⟨26,0,4128⟩,⟨0,26,0⟩,⟨4,8,0⟩,⟨4,20,0⟩],[(2,some c1),(6,some c8),(8,some [.int .u8 0 255])],[(5,false)],[]⟩,[⟨[⟨28,0,0⟩,⟨0,28,0⟩,⟨31,0,0⟩,⟨0,31,0⟩,⟨35,0,0⟩,⟨0,35,0⟩],[(11,none)],[],[]⟩,⟨[⟨28,0,0⟩,⟨0,28,0⟩,⟨31,0,-1⟩,⟨0,31,1⟩,⟨35,0,256⟩,⟨0,35,-1⟩,⟨35,8,1⟩,⟨4,0,-1⟩,⟨8,0,256⟩],[(11,some c1)],[],[]⟩]⟩
def sm138r : Summ := ⟨9,3,⟨[⟨1,0,0⟩,⟨0,1,0⟩,⟨4,0,0⟩,⟨0,4,1⟩,⟨8,0,512⟩,⟨0,8,0⟩,⟨10,0,1⟩,⟨0,10,0⟩,⟨13,0,9000⟩,⟨0,13,0⟩,⟨20,0,9⟩,⟨0,20,0⟩,⟨24,0,9⟩,⟨0,24,0⟩,⟨26,0,4128⟩,⟨0,26,0⟩,⟨4,8,0⟩,⟨4,20,0⟩],[(2,some c1),(6,some c8),(8,some [.int .u8 0 255])],[(5,false)],[]⟩,[⟨[⟨28,0,0⟩,⟨0,28,0⟩,⟨31,0,0⟩,⟨0,31,0⟩,⟨35,0,0⟩,⟨0,35,0⟩],[(11,none)],[],[]⟩,⟨[⟨28,0,0⟩,⟨0,28,0⟩,⟨31,0,-1⟩,⟨0,31,1⟩,⟨35,0,256⟩,⟨0,35,-1⟩,⟨35,8,1⟩,⟨4,0,-1⟩,⟨8,0,256⟩],[(11,some c5)],[],[]⟩]⟩
def an138 : Ann := .e
def tb138 : Nat → Option Summ := tbl [(109,sm109),(135,sm135),(130,sm130)]
theorem ch138 : fcheck tb138 fir138 an138 sm138r [] = true := by kernel_rfl
theorem so138r : sm138r.ok F138 := fcheck_ok ch138 (callsOk (cs := [(109,F109),(135,F135),(130,F130)]) (by kernel_rfl) ⟨tbk rfl so109,tbk rfl so135,tbk rfl so130,trivial⟩)
def sm143 : Summ := ⟨4,2,⟨[f 4 0 0,f 12 0 9],[(2,some c1)],[],[]⟩,[⟨[],[(4,some [.int .u8 0 255])],[],[]⟩]⟩
def an143 : Ann := .e
theorem so143 : sm143.ok F143 := soK [(128,sm128),(127,sm127)] [(128,F128),(127,F127)] an143 (by kernel_rfl) (by kernel_rfl) ⟨tbk rfl so128,tbk rfl so127,trivial⟩
def sm144 : Summ := ⟨5,4,⟨[f 1 0 0,f 0 1 0,f 4 0 0,f 0 4 1,f 12 0 9,f 14 0 1048576,f 0 14 0],[(2,some c1),(4,some [.int .u8 0 255])],[],[]⟩,[⟨[f 19 0 0,f 0 19 0,f 22 0 0,f 0 22 0],[(8,none)],[],[]⟩,⟨[f 19 0 0,f 0 19 0,f 22 0 (-1),f 0 22 1,f 0 26 (-1),f 26 8 0,f 8 0 256],[(8,some c5)],[],[]⟩]⟩
def an144 : Ann := .e
theorem so144 : sm144.ok F144 := soK [(110,sm110),(97,sm97),(131,sm131)] [(110,F110),(97,F97),(131,F131)] an144 (by kernel_rfl) (by kernel_rfl) ⟨tbk rfl so110,tbk rfl so97,tbk rfl so131,trivial⟩
def sm152 : Summ := ⟨9,3,⟨[⟨1,0,0⟩,⟨0,1,0⟩,⟨4,0,0⟩,⟨0,4,1⟩,⟨8,0,512⟩,⟨0,8,0⟩,⟨10,0,1⟩,⟨0,10,0⟩,⟨13,0,9000⟩,⟨0,13,0⟩,⟨20,0,9⟩,⟨0,20,-1⟩,⟨24,0,9⟩,⟨0,24,0⟩,⟨26,0,1048576⟩,⟨0,26,0⟩,⟨10,20,0⟩],[(2,some c1),(6,some c8),(8,some [.int .u8 0 255])],[(5,false)],[]⟩,[⟨[⟨28,0,0⟩,⟨0,28,0⟩,⟨31,0,0⟩,⟨0,31,0⟩,⟨35,0,0⟩,⟨0,35,0⟩],[(11,none)],[],[]⟩,⟨[⟨28,0,0⟩,⟨0,28,0⟩,⟨31,0,-1⟩,⟨0,31,1⟩,⟨35,0,256⟩,⟨0,35,-1⟩],[(11,some c1)],[],[]⟩]⟩
def sm152r : Summ := ⟨9,3,⟨[⟨1,0,0⟩,⟨0,1,0⟩,⟨4,0,0⟩,⟨0,4,1⟩,⟨8,0,512⟩,⟨0,8,0⟩,⟨10,0,1⟩,⟨0,10,0⟩,⟨13,0,9000⟩,⟨0,13,0⟩,⟨20,0,9⟩,⟨0,20,-1⟩,⟨24,0,9⟩,⟨0,24,0⟩,⟨26,0,1048576⟩,⟨0,26,0⟩,⟨10,20,0⟩],[(2,some c1),(6,some c8),(8,some [.int .u8 0 255])],[(5,false)],[]⟩,[⟨[⟨28,0,0⟩,⟨0,28,0⟩,⟨31,0,0⟩,⟨0,31,0⟩,⟨35,0,0⟩,⟨0,35,0⟩],[(11,none)],[],[]⟩,⟨[⟨28,0,0⟩,⟨0,28,0⟩,⟨31,0,-1⟩,⟨0,31,1⟩,⟨35,0,256⟩,⟨0,35,-1⟩],[(11,some c5)],[],[]⟩]⟩
def an152 : Ann := .e
def tb152 : Nat → Option Summ := tbl [(109,sm109),(144,sm144),(130,sm130)]
theorem ch152 : fcheck tb152 fir152 an152 sm152r [] = true := by kernel_rfl
theorem so152r : sm152r.ok F152 := fcheck_ok ch152 (callsOk (cs := [(109,F109),(144,F144),(130,F130)]) (by kernel_rfl) ⟨tbk rfl so109,tbk rfl so144,tbk rfl so130,trivial⟩)
end AI
end
end Go.Proofs.YtndegphojkiblaaGreatDoor
