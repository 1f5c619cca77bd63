/- Towards the last file's theorem: part 31. -/
import Derived.Test.YtndegphojkiblaaGreatDoorG30
set_option linter.unusedSimpArgs false
set_option linter.unusedVariables false
namespace Go.Proofs.YtndegphojkiblaaGreatDoor
section
set_option maxRecDepth 100000
open Go.RowKit
namespace AI
def sm19 : Summ := ⟨2,1,⟨[],[],[],[]⟩,[⟨[],[],[],[]⟩]⟩
def an19 : Ann := .b (.l ⟨[],[⟨[f 0 10 0],[],[],[]⟩],10,true,0,7⟩ (.e)) (.b (.l ⟨[],[⟨[f 13 0 14],[],[],[]⟩],13,false,0,8⟩ (.e)) (.e))
theorem so19 : sm19.ok F19 := soK [] [] an19 (by kernel_rfl) (by kernel_rfl) trivial
def sm21 : Summ := ⟨3,2,⟨[⟨5,0,262208⟩,⟨0,5,0⟩],[(0,some [.int .u8 0 255]),(1,some [.int .u8 0 255])],[],[]⟩,[⟨[⟨10,0,1⟩,⟨0,10,-1⟩,⟨14,0,0⟩,⟨0,14,0⟩],[(4,none)],[],[]⟩,⟨[⟨10,0,0⟩,⟨0,10,0⟩,⟨14,0,262208⟩,⟨0,14,0⟩,⟨14,2,0⟩,⟨14,5,0⟩,⟨2,5,0⟩,⟨5,2,0⟩],[(4,some [.int .u8 0 255])],[],[]⟩]⟩
def an21 : Ann := .b (.e) (.b (.l ⟨[],[⟨[f 0 23 0,f 23 13 0,f 23 19 0],[(7,some [.int .u8 0 255])],[],[]⟩],19,true,0,262207⟩ (.e)) (.e))
theorem so21 : sm21.ok F21 := soK [(19,sm19)] [(19,F19)] an21 (by kernel_rfl) (by kernel_rfl) ⟨tbk rfl so19,trivial⟩
def sm30 : Summ := ⟨6,1,⟨[f 8 0 256,f 0 8 0,f 12 0 9],[(2,some c1),(4,none),(5,none)],[],[]⟩,[⟨[f 0 20 (-1),f 20 8 1],[(6,some c1)],[],[]⟩]⟩
def an30 : Ann := .b (.l ⟨[0],[⟨[f 0 26 0,f 26 8 0,f 26 22 0],[(8,some c1)],[(6,false)],[]⟩,⟨[f 0 26 (-1),f 26 8 1,f 26 22 1],[(8,some c1)],[(6,true)],[]⟩],22,true,0,255⟩ (.b (.j [0] [⟨[f 0 38 (-1),f 38 22 2],[(12,some c1)],[(11,true)],[]⟩,⟨[f 0 38 0,f 38 22 1],[(12,some c1)],[(11,false)],[]⟩] (.e) (.e)) (.e))) (.e)
theorem so30 : sm30.ok F30 := soK [] [] an30 (by kernel_rfl) (by kernel_rfl) trivial
def sm32 : Summ := ⟨4,1,⟨[f 8 0 256],[(2,some c5)],[],[]⟩,[⟨[f 13 8 (-1)],[],[],[]⟩,⟨[f 13 0 (-1)],[],[],[]⟩]⟩
def an32 : Ann := .b (.l ⟨[],[⟨[f 0 13 0],[],[],[]⟩],13,true,0,255⟩ (.e)) (.e)
theorem so32 : sm32.ok F32 := soK [] [] an32 (by kernel_rfl) (by kernel_rfl) trivial
def sm34 : Summ := ⟨1,1,⟨[⟨3,0,9⟩],[],[],[]⟩,[⟨[],[],[(1,false)],[]⟩,⟨[⟨0,3,-1⟩],[],[(1,true)],[]⟩]⟩
def an34 : Ann := .b (.l ⟨[],[⟨[f 0 4 0],[],[],[]⟩],4,true,0,8⟩ (.b (.j [] [⟨[],[],[],[]⟩] (.e) (.e)) (.e))) (.e)
def tb34 : Nat → Option Summ := tbl []
theorem ch34 : fcheck tb34 fir34 an34 sm34 [0] = true := by kernel_rfl
theorem so34 : sm34.ok F34 := fcheck_ok ch34 (callsOk (cs := []) (by kernel_rfl) trivial)
def sm35 : Summ := ⟨1,1,⟨[f 1 0 0],[],[],[]⟩,[⟨[f 4 0 0,f 0 4 0],[],[],[]⟩]⟩
def an35 : Ann := .e
theorem so35 : sm35.ok F35 := soK [] [] an35 (by kernel_rfl) (by kernel_rfl) trivial
def sm36 : Summ := ⟨1,1,⟨[f 1 0 4294967295,f 0 1 0],[],[],[]⟩,[⟨[],[],[],[]⟩]⟩
def an36 : Ann := .b (.l ⟨[],[⟨[f 4 0 4294967295,f 0 4 0,f 0 7 0],[],[],[]⟩],7,true,0,7⟩ (.e)) (.e)
theorem so36 : sm36.ok F36 := soK [] [] an36 (by kernel_rfl) (by kernel_rfl) trivial
def sm37 : Summ := ⟨2,1,⟨[f 5 0 262208],[(1,some [.int .u8 0 255])],[],[]⟩,[⟨[f 7 0 4294967295,f 0 7 0],[],[],[]⟩]⟩
def an37 : Ann := .b (.l ⟨[],[⟨[f 0 13 0],[],[],[]⟩],13,true,0,262207⟩ (.e)) (.e)
theorem so37 : sm37.ok F37 := soK [(36,sm36)] [(36,F36)] an37 (by kernel_rfl) (by kernel_rfl) ⟨tbk rfl so36,trivial⟩
def sm38 : Summ := ⟨1,1,⟨[f 2 0 262208],[(0,some [.int .u8 0 255])],[],[]⟩,[⟨[f 4 0 4294967295,f 0 4 0],[],[],[]⟩]⟩
def an38 : Ann := .e
theorem so38 : sm38.ok F38 := soK [(37,sm37)] [(37,F37)] an38 (by kernel_rfl) (by kernel_rfl) ⟨tbk rfl so37,trivial⟩
def sm39 : Summ := ⟨3,1,⟨[],[],[],[]⟩,[⟨[f 7 0 4294967295,f 0 7 0,f 4 0 8,f 0 4 (-1),f 1 0 3,f 0 1 0],[],[(3,true)],[]⟩,⟨[],[],[(3,false)],[]⟩]⟩
def an39 : Ann := .e
def tb39 : Nat → Option Summ := tbl []
theorem ch39 : fcheck tb39 fir39 an39 sm39 [0] = true := by kernel_rfl
theorem so39 : sm39.ok F39 := fcheck_ok ch39 (callsOk (cs := []) (by kernel_rfl) trivial)
def sm40 : Summ := ⟨1,1,⟨[f 2 0 4],[(0,some [.int .u8 0 255])],[],[]⟩,[⟨[],[],[],[]⟩]⟩
def an40 : Ann := .b (.l ⟨[],[⟨[f 0 7 0],[],[],[]⟩],7,true,0,3⟩ (.e)) (.e)
theorem so40 : sm40.ok F40 := soK [] [] an40 (by kernel_rfl) (by kernel_rfl) trivial
def sm41 : Summ := ⟨1,1,⟨[f 2 0 240],[(0,some [.int .u8 0 255])],[],[]⟩,[⟨[f 5 0 4,f 0 5 (-4)],[(1,some [.int .u8 0 255])],[],[]⟩]⟩
def an41 : Ann := .e
theorem so41 : sm41.ok F41 := soK [(38,sm38)] [(38,F38)] an41 (by kernel_rfl) (by kernel_rfl) ⟨tbk rfl so38,trivial⟩
def sm43 : Summ := ⟨4,1,⟨[],[(3,some [.int .u8 0 255])],[],[]⟩,[⟨[],[],[(4,true)],[]⟩,⟨[],[],[(4,false)],[]⟩]⟩
def an43 : Ann := .e
def tb43 : Nat → Option Summ := tbl []
theorem ch43 : fcheck tb43 fir43 an43 sm43 [0] = true := by kernel_rfl
theorem so43 : sm43.ok F43 := fcheck_ok ch43 (callsOk (cs := []) (by kernel_rfl) trivial)
def sm44 : Summ := ⟨1,1,⟨[f 1 0 4096,f 0 1 0],[],[],[]⟩,[⟨[f 4 0 4120],[],[],[]⟩]⟩
def an44 : Ann := .e
theorem so44 : sm44.ok F44 := soK [] [] an44 (by kernel_rfl) (by kernel_rfl) trivial
def sm45 : Summ := ⟨2,5,⟨[f 2 0 8,f 0 2 0],[(0,some c4)],[],[]⟩,[⟨[f 13 0 3,f 0 13 0,f 19 0 30,f 0 19 0],[],[(2,true)],[]⟩,⟨[f 13 0 0,f 0 13 0,f 19 0 0,f 0 19 0],[],[(2,false)],[]⟩]⟩
def an45 : Ann := .b (.l ⟨[],[⟨[f 13 10 0],[],[],[]⟩],13,false,0,0⟩ (.e)) (.e)
def tb45 : Nat → Option Summ := tbl []
theorem ch45 : fcheck tb45 fir45 an45 sm45 [0] = true := by kernel_rfl
theorem so45 : sm45.ok F45 := fcheck_ok ch45 (callsOk (cs := []) (by kernel_rfl) trivial)
def sm47 : Summ := ⟨4,1,⟨[],[],[],[]⟩,[⟨[f 0 10 0,f 7 0 1048576,f 0 7 (-16)],[],[(4,true)],[]⟩,⟨[],[],[(4,false)],[]⟩]⟩
def an47 : Ann := .e
def tb47 : Nat → Option Summ := tbl []
theorem ch47 : fcheck tb47 fir47 an47 sm47 [0] = true := by kernel_rfl
theorem so47 : sm47.ok F47 := fcheck_ok ch47 (callsOk (cs := []) (by kernel_rfl) trivial)
def sm48 : Summ := ⟨1,1,⟨[f 2 0 8],[(0,some c4)],[],[]⟩,[⟨[],[],[],[]⟩]⟩
def an48 : Ann := .b (.l ⟨[],[⟨[f 0 4 0],[],[],[]⟩],4,true,0,7⟩ (.e)) (.e)
theorem so48 : sm48.ok F48 := soK [(47,sm47)] [(47,F47)] an48 (by kernel_rfl) (by kernel_rfl) ⟨tbk rfl so47,trivial⟩
def sm49 : Summ := ⟨1,1,⟨[f 2 0 8],[(0,some c4)],[],[]⟩,[⟨[f 4 0 mx,f 0 4 18446744073709551615],[],[],[]⟩]⟩
def an49 : Ann := .b (.l ⟨[],[⟨[f 4 0 mx,f 0 4 18446744073709551615,f 0 7 0],[],[],[]⟩],7,true,0,7⟩ (.e)) (.e)
theorem so49 : sm49.ok F49 := soK [(44,sm44)] [(44,F44)] an49 (by kernel_rfl) (by kernel_rfl) ⟨tbk rfl so44,trivial⟩
def sm50 : Summ := ⟨1,1,⟨[],[],[],[]⟩,[⟨[f 4 0 7,f 0 4 0],[],[],[]⟩]⟩
def an50 : Ann := .e
theorem so50 : sm50.ok F50 := soK [] [] an50 (by kernel_rfl) (by kernel_rfl) trivial
def sm52 : Summ := ⟨10,1,⟨[f 2 0 8,f 5 0 8,f 8 0 8,f 11 0 8,f 14 0 8,f 17 0 8,f 20 0 8,f 23 0 8],(g 0 8 c4),[],[]⟩,[⟨[],[],[(10,false)],[]⟩,⟨[f 28 0 1099511627776],[],[(10,true)],[]⟩]⟩
def an52 : Ann := .b (.l ⟨[],[⟨[f 0 34 0],[],[],[]⟩],34,true,0,7⟩ (.b (.b (.e) (.b (.l ⟨[],[⟨[f 0 49 0],[],[],[]⟩],49,true,0,7⟩ (.e)) (.e))) (.e))) (.e)
def tb52 : Nat → Option Summ := tbl [(48,sm48),(50,sm50),(49,sm49)]
theorem ch52 : fcheck tb52 fir52 an52 sm52 [0] = true := by kernel_rfl
theorem so52 : sm52.ok F52 := fcheck_ok ch52 (callsOk (cs := [(48,F48),(50,F50),(49,F49)]) (by kernel_rfl) ⟨tbk rfl so48,tbk rfl so50,tbk rfl so49,trivial⟩)
def sm53 : Summ := ⟨1,1,⟨[],[],[],[]⟩,[⟨[f 6 0 1,f 0 6 (-1)],[],[],[]⟩]⟩
def an53 : Ann := .e
theorem so53 : sm53.ok F53 := soK [] [] an53 (by kernel_rfl) (by kernel_rfl) trivial
def sm54 : Summ := ⟨5,1,⟨[],[],[(4,false)],[]⟩,[⟨[],[],[(5,false)],[]⟩,⟨[],[],[(5,true)],[]⟩]⟩
def an54 : Ann := .e
def tb54 : Nat → Option Summ := tbl []
theorem ch54 : fcheck tb54 fir54 an54 sm54 [0] = true := by kernel_rfl
theorem so54 : sm54.ok F54 := fcheck_ok ch54 (callsOk (cs := []) (by kernel_rfl) trivial)
def sm55 : Summ := ⟨5,2,⟨[f 1 0 5,f 0 1 (-1)],[],[(4,false)],[]⟩,[⟨[f 18 0 9,f 0 18 0],[],[],[]⟩]⟩
def an55 : Ann := .e
theorem so55 : sm55.ok F55 := soK [(54,sm54),(53,sm53)] [(54,F54),(53,F53),(53,F53),(53,F53)] an55 (by kernel_rfl) (by kernel_rfl) ⟨tbk rfl so54,tbk rfl so53,tbk rfl so53,tbk rfl so53,trivial⟩
def sm56 : Summ := ⟨3,1,⟨[f 1 0 4,f 0 1 (-1)],[],[],[]⟩,[⟨[f 12 0 9,f 0 12 0],[],[],[]⟩]⟩
def an56 : Ann := .e
theorem so56 : sm56.ok F56 := soK [(55,sm55)] [(55,F55)] an56 (by kernel_rfl) (by kernel_rfl) ⟨tbk rfl so55,trivial⟩
def sm57 : Summ := ⟨1,4,⟨[f 0 1 (-1)],[],[],[]⟩,[⟨[f 7 0 0,f 0 7 0,f 10 0 0,f 0 10 0,f 13 0 0,f 0 13 0,f 0 1 (-9)],[],[],[]⟩,⟨[f 0 7 (-1),f 10 0 1,f 0 10 (-1),f 13 0 16,f 0 13 (-16),f 7 1 0,f 1 0 8],[],[],[]⟩]⟩
def an57 : Ann := .e
theorem so57 : sm57.ok F57 := soK [] [] an57 (by kernel_rfl) (by kernel_rfl) trivial
def sm58 : Summ := ⟨2,1,⟨[f 2 0 8],[(0,some c4)],[],[]⟩,[⟨[],[],[],[]⟩]⟩
def an58 : Ann := .b (.l ⟨[],[⟨[f 0 7 0],[],[],[]⟩],7,true,0,7⟩ (.b (.b (.b (.e) (.l ⟨[],[⟨[f 0 37 0],[],[],[]⟩],37,true,0,7⟩ (.e))) (.e)) (.e))) (.e)
theorem so58 : sm58.ok F58 := soK [(44,sm44)] [(44,F44)] an58 (by kernel_rfl) (by kernel_rfl) ⟨tbk rfl so44,trivial⟩
def sm67 : Summ := ⟨11,1,⟨[f 32 0 8],[(10,some c4)],[],[]⟩,[⟨[],[],[(11,false)],[]⟩,⟨[f 10 0 524288,f 0 10 (-16),f 0 4 (-1)],[],[(11,true)],[]⟩]⟩
def an67 : Ann := .j [0] [⟨[],[],[(11,true)],[]⟩,⟨[f 10 0 524288,f 0 10 (-16),f 0 4 (-1)],[],[(11,false)],[]⟩] (.e) (.b (.e) (.b (.l ⟨[],[⟨[f 0 37 0],[],[],[]⟩],37,true,0,7⟩ (.e)) (.e)))
def tb67 : Nat → Option Summ := tbl [(39,sm39),(48,sm48),(44,sm44)]
theorem ch67 : fcheck tb67 fir67 an67 sm67 [0] = true := by kernel_rfl
theorem so67 : sm67.ok F67 := fcheck_ok ch67 (callsOk (cs := [(39,F39),(48,F48),(44,F44)]) (by kernel_rfl) ⟨tbk rfl so39,tbk rfl so48,tbk rfl so44,trivial⟩)
def sm68 : Summ := ⟨3,1,⟨[],[],[],[]⟩,[⟨[f 12 0 9,f 0 12 0],[],[],[]⟩]⟩
def an68 : Ann := .e
theorem so68 : sm68.ok F68 := soK [(55,sm55)] [(55,F55)] an68 (by kernel_rfl) (by kernel_rfl) ⟨tbk rfl so55,trivial⟩
def sm72 : Summ := ⟨1,4,⟨[],[(0,some [.int .u8 0 255])],[],[]⟩,[⟨[f 7 0 3,f 0 7 0,f 10 0 8,f 13 0 4294967295,f 0 13 0],[],[],[]⟩]⟩
def an72 : Ann := .e
theorem so72 : sm72.ok F72 := soK [(41,sm41),(40,sm40),(39,sm39)] [(41,F41),(40,F40),(40,F40),(40,F40),(39,F39)] an72 (by kernel_rfl) (by kernel_rfl) ⟨tbk rfl so41,tbk rfl so40,tbk rfl so40,tbk rfl so40,tbk rfl so39,trivial⟩
def sm78 : Summ := ⟨11,1,⟨[f 2 0 8,f 5 0 8,f 8 0 8,f 11 0 8,f 14 0 8,f 17 0 8,f 20 0 8,f 23 0 8,f 28 0 2199023255552,f 0 28 0],(g 0 8 c4),[],[]⟩,[⟨[f 34 0 2199023255552,f 0 34 0],[],[],[]⟩]⟩
def an78 : Ann := .e
theorem so78 : sm78.ok F78 := soK [(52,sm52)] [(52,F52)] an78 (by kernel_rfl) (by kernel_rfl) ⟨tbk rfl so52,trivial⟩
def sm10900031 : Summ := ⟨3,2,⟨[f 4 0 (-1),f 0 4 1,f 8 0 256,f 0 8 0],[(2,some c1)],[],[]⟩,[⟨[f 10 0 (-1),f 0 10 1,f 0 14 0,f 14 8 0],[(4,some c1)],[],[]⟩]⟩
def an10900031 : Ann := .e
def tb10900031 : Nat → Option Summ := tbl []
theorem ch10900031 : fcheck tb10900031 fir31 an10900031 sm10900031 [] = true := by kernel_rfl
theorem so10900031 : sm10900031.ok F31 := fcheck_ok ch10900031 (callsOk (cs := []) (by kernel_rfl) trivial)
def sm12900031 : Summ := ⟨3,2,⟨[f 4 0 (-1),f 0 4 1,f 8 0 256,f 0 8 (-1)],[(2,some c1)],[],[]⟩,[⟨[f 10 0 (-1),f 0 10 1,f 14 0 256,f 8 14 0],[(4,some c1)],[],[]⟩]⟩
def an12900031 : Ann := .e
def tb12900031 : Nat → Option Summ := tbl []
theorem ch12900031 : fcheck tb12900031 fir31 an12900031 sm12900031 [] = true := by kernel_rfl
theorem so12900031 : sm12900031.ok F31 := fcheck_ok ch12900031 (callsOk (cs := []) (by kernel_rfl) trivial)
def sm13000031 : Summ := ⟨3,2,⟨[f 4 0 (-1),f 0 4 1,f 8 0 256,f 0 8 (-1)],[(2,some c5)],[],[]⟩,[⟨[f 10 0 (-1),f 0 10 1,f 14 8 0,f 8 14 0],[(4,some c5)],[],[]⟩]⟩
def an13000031 : Ann := .e
def tb13000031 : Nat → Option Summ := tbl []
theorem ch13000031 : fcheck tb13000031 fir31 an13000031 sm13000031 [] = true := by kernel_rfl
theorem so13000031 : sm13000031.ok F31 := fcheck_ok ch13000031 (callsOk (cs := []) (by kernel_rfl) trivial)
def sm13100031 : Summ := ⟨3,2,⟨[f 4 0 (-1),f 0 4 1,f 8 0 256,f 0 8 (-1)],[(2,some c1)],[],[]⟩,[⟨[f 10 0 (-1),f 0 10 1,f 14 8 0,f 8 14 0],[(4,some c1)],[],[]⟩]⟩
def an13100031 : Ann := .e
def tb13100031 : Nat → Option Summ := tbl []
theorem ch13100031 : fcheck tb13100031 fir31 an13100031 sm13100031 [] = true := by kernel_rfl
theorem so13100031 : sm13100031.ok F31 := fcheck_ok ch13100031 (callsOk (cs := []) (by kernel_rfl) trivial)
def sm2004 : Summ := ⟨2,1,⟨[f 0 2 0,f 4 0 4],[(0,some c6)],[],[]⟩,[⟨[f 8 0 4],[(2,some c3)],[],[]⟩]⟩
def an2004 : Ann := .b (.l ⟨[],[⟨[f 11 0 4,f 0 11 0,f 11 7 0],[(3,some c3)],[],[]⟩],7,true,0,3⟩ (.e)) (.e)
theorem so2004 : sm2004.ok F2004 := soK [] [] an2004 (by kernel_rfl) (by kernel_rfl) trivial
end AI
end
section
open Go.RowKit
namespace AI
theorem so70 : sm70.ok F70 := by
 intro ls hl hp
 match ls,hl with
 | [l0,l1,l2],_ =>
  have a1 := hp.fs ⟨3,0,9⟩ (by simp [sm70])
  have a2 := hp.fs ⟨5,0,4194304⟩ (by simp [sm70])
  have a3 := hp.fs ⟨8,0,1099511627776⟩ (by simp [sm70])
  have b1 := hp.rw (1,some bU8) (by simp [sm70])
  have b2 := hp.rw (2,some cWr) (by simp [sm70])
  have h34 : ∃ v,F34 [l0] = some [v] := by
   obtain ⟨o,h,hlen,_⟩ := so34 [l0] rfl ⟨fun f hf => (by simp [sm34] at hf; rcases hf with rfl | rfl <;> simp [Fa.holds,tmV] at a1 ⊢ <;> omega),fun x hx => (by cases hx),fun x hx => (by cases hx),fun x hx => (by cases hx)⟩
   match o,hlen with
   | [v],_ => exact ⟨v,h⟩
  simp [Fa.holds,tmV] at a2 a3
  obtain ⟨o,h1,b,rfl,h2⟩ := validFile_law l0 l1 l2 h34 (by omega) (by omega) b1 b2
  cases b with
  | true =>
   obtain ⟨h2,h3⟩ := h2 rfl
   refine ⟨_,h1,rfl,_,List.mem_cons_self,⟨fun f hf => ?_,fun x hx => ?_,fun x hx => ?_,fun x hx => (by cases hx)⟩⟩
   · simp at hf
     subst hf
     simp [Fa.holds,tmV]; omega
   · simp at hx
     subst hx; exact h3
   · simp at hx
     subst hx; rfl
  | false =>
   refine ⟨_,h1,rfl,_,List.mem_cons_of_mem _ List.mem_cons_self,⟨fun f hf => (by cases hf),fun x hx => (by cases hx),fun x hx => ?_,fun x hx => (by cases hx)⟩⟩
   simp at hx
   subst hx; rfl
theorem size_law (l0 l1 : L) (h0 : l0.asI = 6) (h1 : l1.asI = 4) : F22 [l0,l1] = some [.b true] := by
 simp [F22,Fo,fir22,Fir.den,Nd.ev,binI,At.ev,asI_i,asB_b,outO,h0,h1]
theorem valid3_law (l0 l1 l2 : L) (h0 : l0.asI = 6) (h1 : l1.asI = 4) (h2 : l2.asR.length = 24) : F24 [l0,l1,l2] = some [.b true] := by
 have w : IntKind.wrap .i64 24 = 24 := by decide
 simp [F24,Fo,fir24,Fir.den,Nd.ev,binI,At.ev,asI_i,asB_b,outO,h0,h1,h2,size_law,w]
def cSh : List AC := [.sl 262208 bU8]
theorem bU8_bare {rows : List (List PV)} (h : AC.rows bU8 rows) : rows.all (·.all PV.bare) = true := List.all_eq_true.2 fun r hr => AC.bares_ok (cs := bU8) rfl (h r hr)
theorem sh_row {r : List PV} (h : AC.oks cSh r) : ∃ q,r = [.sl q] ∧ q.length ≤ 262208 ∧ AC.rows bU8 q := by
 match r,h with
 | [x],h =>
  obtain ⟨⟨q,h1,h2,h3⟩,_⟩ := (show AC.ok (.sl 262208 bU8) x ∧ AC.oks [] [] from h)
  exact ⟨q,by rw [h1],by omega,h3⟩
theorem apply_law (l0 l1 l2 l3 : L) (n : Nat) (h0 : l0.asI = 6) (h1 : l1.asI = 4) (h2 : l2.asR.length = 24) (r2 : AC.rows bU8 l2.asR) (h3 : l3.asR.length = 4) (hp : ∀ r ∈ l3.asR,∃ q,r = [.sl q] ∧ q.length = n) (r3 : AC.rows cSh l3.asR)
   (h21 : ∀ a b c : L,b.asR.length ≤ 262208 → AC.rows bU8 a.asR → AC.rows bU8 b.asR → ∃ e o,F21 [a,b,c] = some [e,o] ∧ o.asR.length ≤ 262208 ∧ AC.rows bU8 o.asR) :
   ∃ o,F60 [l0,l1,l2,l3] = some o ∧ ∃ rows,o = [.i 0,.r rows] ∧ rows.length = 6 ∧ AC.rows cSh rows := by
 have hv := valid3_law l0 l1 l2 h0 h1 h2
 refine outO_of_wp ?_
 unfold fir60
 simp [Fo,wp_op,wp_ite,wp_leaf,wp_join,Nd.ev,binI,binB,unI,At.ev,d6,d7,d8,e0,d9,joinQ,loopQ,outQ,pvsOf,Kd.pv,List.map_cons,List.map_nil,d1,d2,d3,d4,d5,Option.map_some,hv,h1,h3]
 refine wp_loop (I := fun a => ∃ i : Nat,a = [.i i] ∧ i ≤ 4) (mu := fun a => match a with | [.i i] => 4 - i.toNat | _ => 0) (by exact ⟨0,rfl,by omega⟩) ?_
 rintro a ⟨i,rfl,e1⟩
 have h0' : 0 < l3.asR.length := by omega
 obtain ⟨p,p1,p2⟩ := hp _ (List.getElem_mem h0')
 have p3 : p.length ≤ 262208 := by
   obtain ⟨q,q1,q2,q3⟩ := sh_row (r3 _ (List.getElem_mem h0'))
   rw [p1] at q1; cases q1; exact q2
 by_cases hi : i < 4
 · have hi' : i < l3.asR.length := by omega
   obtain ⟨q,q1,q2⟩ := hp _ (List.getElem_mem hi')
   have w : IntKind.wrap .i64 ((i : Int) + 1) = (i : Int) + 1 := wrap64 (by omega) (by omega)
   have hi2 : (i : Int) < 4 := by omega
   simp [Fo,wp_op,wp_ite,wp_leaf,wp_join,Nd.ev,binI,binB,unI,At.ev,d6,d7,d8,e0,d9,joinQ,loopQ,outQ,pvsOf,Kd.pv,List.map_cons,List.map_nil,d1,d2,d3,d4,d5,Option.map_some,h3,hi,hi2,hi',h0',q1,p1,Kd.of,q2,p2,w]
   exact ⟨⟨i + 1,by omega,by omega⟩,by omega⟩
 have hi2 : ¬ (i : Int) < 4 := by omega
 simp [Fo,wp_op,wp_ite,wp_leaf,wp_join,Nd.ev,binI,binB,unI,At.ev,d6,d7,d8,e0,d9,joinQ,loopQ,outQ,pvsOf,Kd.pv,List.map_cons,List.map_nil,d1,d2,d3,d4,d5,Option.map_some,h3,hi,hi2]
 refine wp_loop (I := fun a => ∃ (i : Nat) (rows : List (List PV)),a = [.i i,.r rows] ∧ i ≤ 6 ∧ rows.length = i ∧ AC.rows cSh rows) (mu := fun a => match a with | [.i i,_] => 6 - i.toNat | _ => 0) (by exact ⟨0,[],rfl,by omega,rfl,fun r hr => by cases hr⟩) ?_
 rintro a ⟨i,rows,rfl,e1,e2,e3⟩
 by_cases hi : (i : Int) < 6
 rotate_left
 · have : i = 6 := by omega
   simp [Fo,wp_op,wp_ite,wp_leaf,wp_join,Nd.ev,binI,binB,unI,At.ev,d6,d7,d8,e0,d9,joinQ,loopQ,outQ,pvsOf,Kd.pv,List.map_cons,List.map_nil,d1,d2,d3,d4,d5,Option.map_some,h0,hi]
   exact ⟨by omega,e3⟩
 have w : IntKind.wrap .i64 ((i : Int) + 1) = (i : Int) + 1 := wrap64 (by omega) (by omega)
 have w4 : IntKind.wrap .i64 ((i : Int) * 4) = (i : Int) * 4 := wrap64 (by omega) (by omega)
 have n1 : n ≤ 9223372036854775807 := by omega
 have n2 : n ≤ 281474976710656 := by omega
 have n3 : (n : Int) ≤ 9223372036854775807 := by omega
 simp [Fo,wp_op,wp_ite,wp_leaf,wp_join,Nd.ev,binI,binB,unI,At.ev,d6,d7,d8,e0,d9,joinQ,loopQ,outQ,pvsOf,Kd.pv,List.map_cons,List.map_nil,d1,d2,d3,d4,d5,Option.map_some,h0,h1,hi,h0',p1,Kd.of,p2,n1,n2,n3]
 refine wp_loop (I := fun a => ∃ (k : Nat) (row : L),a = [.i k,row] ∧ k ≤ 4 ∧ row.asR.length ≤ 262208 ∧ AC.rows bU8 row.asR) (mu := fun a => match a with | [.i k,_] => 4 - k.toNat | _ => 0) (by exact ⟨0,.r (List.replicate n [.sc (.int .u8 0)]),rfl,by omega,by simp only [asR_r,List.length_replicate]; omega,fun r hr => by
   rw [List.eq_of_mem_replicate hr]; exact ⟨⟨0,rfl,by omega,by omega⟩,trivial⟩⟩) ?_
 rintro a ⟨k,row,rfl,f1,f2,f3⟩
 by_cases hk : (k : Int) < 4
 · have hk' : k < l3.asR.length := by omega
   obtain ⟨q,q1,q2,q3⟩ := sh_row (r3 _ (List.getElem_mem hk'))
   have w2 : IntKind.wrap .i64 ((i : Int) * 4 + (k : Int)) = (i : Int) * 4 + (k : Int) := wrap64 (by omega) (by omega)
   have w3 : IntKind.wrap .i64 ((k : Int) + 1) = (k : Int) + 1 := wrap64 (by omega) (by omega)
   have hm : i * 4 + k < l2.asR.length := by omega
   obtain ⟨m,m1,_,_⟩ := bU8_row (r2 _ (List.getElem_mem hm))
   obtain ⟨e,o,k1,k2,k3⟩ := h21 row (.r q) (.i m) (by rw [asR_r]; exact q2) f3 (by rw [asR_r]; exact q3)
   have hb : ∀ r ∈ o.asR,∀ x ∈ r,x.bare = true := by
    have := bU8_bare k3
    simpa [List.all_eq_true] using this
   have hmz : ((i : Int) * 4 + (k : Int)).toNat = i * 4 + k := by omega
   have hm0 : (0 : Int) ≤ (i : Int) * 4 + (k : Int) := by omega
   simp [Fo,wp_op,wp_ite,wp_leaf,wp_join,Nd.ev,binI,binB,unI,At.ev,d6,d7,d8,e0,d9,joinQ,loopQ,outQ,pvsOf,Kd.pv,List.map_cons,List.map_nil,d1,d2,d3,d4,d5,Option.map_some,h1,hk,hk',q1,Kd.of,w4,w2,hm,hmz,hm0,m1,k1,w3]
   rw [if_pos hb]
   simp
   exact ⟨⟨k + 1,o,⟨by omega,rfl⟩,by omega,k2,k3⟩,by omega⟩
 · have n4 : rows.length ≤ 9223372036854775806 := by omega
   have n5 : (rows.length + 1) * 24 ≤ 140737488355328 := by omega
   have n6 : rectB 1 rows = true := AC.rows_rectB (cs := cSh) e3
   have n7 : rectB 1 [[PV.sl row.asR]] = true := rfl
   simp [Fo,wp_op,wp_ite,wp_leaf,wp_join,Nd.ev,binI,binB,unI,At.ev,d6,d7,d8,e0,d9,joinQ,loopQ,outQ,pvsOf,Kd.pv,List.map_cons,List.map_nil,d1,d2,d3,d4,d5,Option.map_some,h1,hk,n4,n5,n6,n7,w]
   refine ⟨⟨i + 1,_,⟨by omega,rfl⟩,by omega,by simp [e2],rows_append e3 fun r hr => ?_⟩,by omega⟩
   rw [List.mem_singleton.1 hr]
   exact ⟨⟨_,rfl,by omega,f3⟩,trivial⟩
def sm60 : Summ := ⟨4,2,{ fs := [⟨1,0,6⟩,⟨0,1,-6⟩,⟨4,0,4⟩,⟨0,4,-4⟩,⟨8,0,24⟩,⟨0,8,-24⟩,⟨11,0,4⟩,⟨0,11,-4⟩],rw := [(2,some bU8),(3,some [.sl 262208 bU8])],pr := [(0,[3])] },[{ fs := [⟨13,0,0⟩,⟨0,13,0⟩,⟨17,0,6⟩,⟨0,17,-6⟩],rw := [(5,some [.sl 262208 bU8])] }]⟩
theorem so60 : sm60.ok F60 := by
 intro ls hl hp
 match ls,hl with
 | [l0,l1,l2,l3],_ =>
  have a1 := hp.fs ⟨1,0,6⟩ (by simp [sm60])
  have a2 := hp.fs ⟨0,1,-6⟩ (by simp [sm60])
  have a3 := hp.fs ⟨4,0,4⟩ (by simp [sm60])
  have a4 := hp.fs ⟨0,4,-4⟩ (by simp [sm60])
  have a5 := hp.fs ⟨8,0,24⟩ (by simp [sm60])
  have a6 := hp.fs ⟨0,8,-24⟩ (by simp [sm60])
  have a7 := hp.fs ⟨11,0,4⟩ (by simp [sm60])
  have a8 := hp.fs ⟨0,11,-4⟩ (by simp [sm60])
  have b1 := hp.rw (2,some bU8) (by simp [sm60])
  have b2 := hp.rw (3,some [.sl 262208 bU8]) (by simp [sm60])
  obtain ⟨n,b3⟩ := hp.pr (0,[3]) (by simp [sm60])
  simp [Fa.holds,tmV] at a1 a2 a3 a4 a5 a6 a7 a8
  have h21 : ∀ a b c : L,b.asR.length ≤ 262208 → AC.rows bU8 a.asR → AC.rows bU8 b.asR → ∃ e o,F21 [a,b,c] = some [e,o] ∧ o.asR.length ≤ 262208 ∧ AC.rows bU8 o.asR := fun a b c g1 g2 g3 => by
    obtain ⟨o,h,hlen,T,hT,hok⟩ := so21 [a,b,c] rfl ⟨fun f hf => (by simp [sm21] at hf; rcases hf with rfl | rfl <;> simp [Fa.holds,tmV]; omega),fun x hx => (by simp [sm21] at hx; rcases hx with rfl | rfl; exact g2; exact g3),fun x hx => (by cases hx),fun x hx => (by cases hx)⟩
    match o,hlen with
    | [e,o],_ =>
     refine ⟨e,o,h,?_⟩
     simp only [sm21,List.mem_cons,List.not_mem_nil,or_false] at hT
     rcases hT with rfl | rfl
     · have := hok.rw (4,none) (by simp)
       have this : o.asR = [] := this
       rw [this]; exact ⟨by simp,fun r hr => by cases hr⟩
     · have h1 := hok.fs ⟨14,0,262208⟩ (by simp)
       have h2 := hok.rw (4,some bU8) (by simp [bU8])
       simp [Fa.holds,tmV] at h1
       exact ⟨by omega,h2⟩
  obtain ⟨o,h1,rows,rfl,h2,h3⟩ := apply_law l0 l1 l2 l3 n (by omega) (by omega) (by omega) b1 (by omega) b3 b2 h21
  refine ⟨_,h1,rfl,_,List.mem_singleton.2 rfl,⟨fun f hf => ?_,fun x hx => ?_,fun x hx => (by cases hx),fun x hx => (by cases hx)⟩⟩
  · simp at hf
    rcases hf with rfl | rfl | rfl | rfl <;> simp [Fa.holds,tmV,asR_r,asI_i,h2]
  · simp at hx
    subst hx; exact h3
end AI
end
section
namespace Pl
structure It where
 key : Int
 cookie : Int
 off : Int
 size : Int
deriving DecidableEq,Inhabited
def szR (n : Int) : Int := if n < 0 ∨ 4096 < n then 0 else (n + 31) / 8 * 8
def okIt (x : It) : Bool := decide (16 ≤ x.off) && decide (x.off ≤ 1048576) && decide (x.off % 8 = 0) && decide (0 ≤ x.size) && decide (x.size ≤ 4096)
def asc (l : List It) : Prop := l.Pairwise fun a b => a.key < b.key
def VL (l : List It) : Prop := asc l ∧ ∀ x ∈ l,okIt x = true
def ends (x : It) : Int := x.off + szR x.size
theorem szR_pos {x : It} (h : okIt x = true) : 24 ≤ szR x.size := by
 simp only [okIt,Bool.and_eq_true,decide_eq_true_eq] at h
 unfold szR
 rw [if_neg (by omega)]
 omega
def Clear (a b : It) : Prop := ¬ (a.off ≤ b.off ∧ b.off < ends a) ∧ ¬ (b.off ≤ a.off ∧ a.off < ends b)
theorem Clear.symm {a b : It} (h : Clear a b) : Clear b a := ⟨h.2,h.1⟩
def fitEnd : Int → List It → Option Int
 | e,[] => some e
 | e,x :: l => if x.off < e then none else fitEnd (ends x) l
theorem fitEnd_iff (l : List It) (hok : ∀ x ∈ l,okIt x = true) (hs : l.Pairwise fun a b => a.off ≤ b.off) (size : Int) : ∀ e : Int,(∀ x ∈ l,e ≤ x.off) → e ≤ size →
  ((∃ r,fitEnd e l = some r ∧ r ≤ size) ↔ (l.Pairwise Clear ∧ ∀ x ∈ l,ends x ≤ size)) := by
 induction l with
 | nil => intro e _ h; simp [fitEnd,h]
 | cons a l ih =>
  intro e he hse
  have ha := szR_pos (hok a (by simp))
  have hs' := List.pairwise_cons.1 hs
  have hne : ¬ a.off < e := by have := he a (by simp); omega
  simp only [fitEnd,if_neg hne]
  by_cases hea : ends a ≤ size
  · by_cases hall : ∀ x ∈ l,ends a ≤ x.off
    · rw [ih (fun x hx => hok x (by simp [hx])) hs'.2 (ends a) hall hea]
      rw [List.pairwise_cons]
      constructor
      · rintro ⟨h1,h2⟩
        refine ⟨⟨fun b hb => ⟨fun h => ?_,fun h => ?_⟩,h1⟩,fun x hx => ?_⟩
        · have := hall b hb; omega
        · have := hall b hb; unfold ends at *; omega
        · rcases List.mem_cons.1 hx with rfl | hx
          · exact hea
          · exact h2 x hx
      · rintro ⟨⟨_,h1⟩,h2⟩
        exact ⟨h1,fun x hx => h2 x (by simp [hx])⟩
    · constructor
      · rintro ⟨r,h1,_⟩
        exfalso
        apply hall
        intro x hx
        match l,hx,h1 with
        | b :: l',hx,h1 =>
          simp only [fitEnd] at h1
          split at h1
          · cases h1
          · rename_i hb
            rcases List.mem_cons.1 hx with rfl | hx'
            · omega
            · have := (List.pairwise_cons.1 hs'.2).1 x hx'; omega
      · rintro ⟨h1,_⟩
        exfalso
        apply hall
        intro x hx
        have h2 := (List.pairwise_cons.1 h1).1 x hx
        have h3 := hs'.1 x hx
        have := h2.1
        omega
  · constructor
    · rintro ⟨r,h1,h2⟩
      exfalso
      have key : ∀ (l : List It) (e r : Int),(∀ x ∈ l,okIt x = true) → fitEnd e l = some r → e ≤ r := by
        intro l
        induction l with
        | nil => intro e r _ h; simp [fitEnd] at h; omega
        | cons b l ihl =>
          intro e r hok h
          simp only [fitEnd] at h
          split at h
          · cases h
          · have := ihl _ _ (fun x hx => hok x (by simp [hx])) h
            have hb := szR_pos (hok b (by simp))
            unfold ends at this
            omega
      have := key l _ _ (fun x hx => hok x (by simp [hx])) h1
      omega
    · rintro ⟨_,h2⟩
      exact absurd (h2 a (by simp)) hea
theorem fits_iff {l l' : List It} (hok : ∀ x ∈ l,okIt x = true) (hp : l'.Perm l) (hs : l'.Pairwise fun a b => a.off ≤ b.off) (size : Int) (h16 : 16 ≤ size) :
   (∃ r,fitEnd 16 l' = some r ∧ r ≤ size) ↔ (l.Pairwise Clear ∧ ∀ x ∈ l,ends x ≤ size) := by
 have hok' : ∀ x ∈ l',okIt x = true := fun x hx => hok x (hp.mem_iff.1 hx)
 rw [fitEnd_iff l' hok' hs size 16 (fun x hx => by have := hok' x hx; simp only [okIt,Bool.and_eq_true,decide_eq_true_eq] at this; omega) h16]
 rw [hp.pairwise_iff (fun h => Clear.symm h)]
 constructor
 · rintro ⟨h1,h2⟩
   exact ⟨h1,fun x hx => h2 x (hp.mem_iff.2 hx)⟩
 · rintro ⟨h1,h2⟩
   exact ⟨h1,fun x hx => h2 x (hp.mem_iff.1 hx)⟩
def ins (x : It) : List It → List It
 | [] => [x]
 | a :: l => if a.key < x.key then a :: ins x l else if a.key = x.key then x :: l else x :: a :: l
def srt (l : List It) : List It := l.foldl (fun out x => ins x out) []
theorem mem_ins {x y : It} : ∀ {l : List It},y ∈ ins x l → y = x ∨ y ∈ l
 | [],h => by simp [ins] at h; exact .inl h
 | a :: l,h => by
  unfold ins at h
  split at h
  · rcases List.mem_cons.1 h with rfl | h
    · exact .inr (by simp)
    · rcases mem_ins h with h | h
      · exact .inl h
      · exact .inr (by simp [h])
  · split at h
    · rcases List.mem_cons.1 h with rfl | h
      · exact .inl rfl
      · exact .inr (by simp [h])
    · rcases List.mem_cons.1 h with rfl | h
      · exact .inl rfl
      · exact .inr h
theorem asc_ins (x : It) : ∀ {l : List It},asc l → asc (ins x l)
 | [],_ => by simp [ins,asc]
 | a :: l,h => by
  have h' := List.pairwise_cons.1 h
  unfold ins
  split
  · rename_i hlt
    refine List.pairwise_cons.2 ⟨fun y hy => ?_,asc_ins x h'.2⟩
    rcases mem_ins hy with rfl | hy
    · exact hlt
    · exact h'.1 y hy
  · split
    · rename_i _ heq
      exact List.pairwise_cons.2 ⟨fun y hy => by rw [← heq]; exact h'.1 y hy,h'.2⟩
    · rename_i h1 h2
      refine List.pairwise_cons.2 ⟨fun y hy => ?_,h⟩
      rcases List.mem_cons.1 hy with rfl | hy
      · omega
      · have := h'.1 y hy; omega
theorem asc_foldl : ∀ (l out : List It),asc out → asc (l.foldl (fun out x => ins x out) out)
 | [],_,h => h
 | x :: l,out,h => asc_foldl l (ins x out) (asc_ins x h)
theorem asc_srt (l : List It) : asc (srt l) := asc_foldl l [] (by simp [asc])
theorem mem_foldl : ∀ (l out : List It) (y : It),y ∈ l.foldl (fun out x => ins x out) out → y ∈ l ∨ y ∈ out
 | [],_,_,h => .inr h
 | x :: l,out,y,h => by
  rcases mem_foldl l (ins x out) y h with h | h
  · exact .inl (by simp [h])
  · rcases mem_ins h with rfl | h
    · exact .inl (by simp)
    · exact .inr h
theorem mem_srt {l : List It} {y : It} (h : y ∈ srt l) : y ∈ l := by
 rcases mem_foldl l [] y h with h | h
 · exact h
 · cases h
def Apart (l : List It) : Prop := l.Pairwise fun a b => a.key ≠ b.key
theorem asc.apart {l : List It} (h : asc l) : Apart l := h.imp fun h e => by omega
theorem perm_ins {x : It} : ∀ {l : List It},(∀ y ∈ l,y.key ≠ x.key) → (ins x l).Perm (x :: l)
 | [],_ => by simp [ins]
 | a :: l,h => by
  have ha : ¬ a.key = x.key := h a (by simp)
  unfold ins
  split
  · exact ((perm_ins fun y hy => h y (by simp [hy])).cons a).trans (List.Perm.swap x a l)
  · exact List.Perm.refl _
theorem perm_foldl : ∀ (l out : List It),Apart l → (∀ x ∈ l,∀ y ∈ out,y.key ≠ x.key) → (l.foldl (fun out x => ins x out) out).Perm (l ++ out)
 | [],_,_,_ => List.Perm.refl _
 | x :: l,out,hl,hd => by
  have hl' := List.pairwise_cons.1 hl
  refine (perm_foldl l (ins x out) hl'.2 fun z hz y hy => ?_).trans ?_
  · rcases mem_ins hy with rfl | hy
    · exact hl'.1 z hz
    · exact hd z (by simp [hz]) y hy
  · exact ((perm_ins (hd x (by simp))).append_left l).trans List.perm_middle
theorem perm_srt {l : List It} (h : Apart l) : (srt l).Perm l := by
 have := perm_foldl l [] h (fun _ _ _ hy => by cases hy)
 rwa [List.append_nil] at this
theorem asc_perm_eq : ∀ {l l' : List It},asc l → asc l' → l.Perm l' → l = l'
 | [],l',_,_,hp => by simpa using hp.symm.eq_nil
 | a :: l,[],_,_,hp => by simpa using hp.eq_nil
 | a :: l,b :: l',h,h',hp => by
  have h1 := List.pairwise_cons.1 h
  have h2 := List.pairwise_cons.1 h'
  have hab : a = b := by
   have ha : a ∈ b :: l' := hp.mem_iff.1 (by simp)
   have hb : b ∈ a :: l := hp.mem_iff.2 (by simp)
   rcases List.mem_cons.1 ha with e | ha
   · exact e
   · rcases List.mem_cons.1 hb with e | hb
     · exact e.symm
     · have := h1.1 b hb; have := h2.1 a ha; omega
  subst hab
  rw [asc_perm_eq h1.2 h2.2 ((List.perm_cons a).1 hp)]
theorem srt_of_perm {l l' : List It} (ha : asc l') (hp : l'.Perm l) (hl : Apart l) : srt l = l' :=
 asc_perm_eq (asc_srt l) ha ((perm_srt hl).trans hp.symm)
theorem srt_asc {l : List It} (h : asc l) : srt l = l := srt_of_perm h (List.Perm.refl _) h.apart
def findL (l : List It) (k : Int) : Option It := l.reverse.find? fun x => decide (x.key = k)
theorem findL_some {l : List It} (h : Apart l) {x : It} (hx : x ∈ l) : findL l x.key = some x := by
 unfold findL
 have hx' : x ∈ l.reverse := by simpa using hx
 have hap : Apart l.reverse := List.pairwise_reverse.2 (h.imp fun h => Ne.symm h)
 clear hx h
 generalize l.reverse = r at *
 induction r with
 | nil => cases hx'
 | cons a r ih =>
  rw [List.find?_cons]
  rcases List.mem_cons.1 hx' with rfl | hx
  · simp
  · have := (List.pairwise_cons.1 hap).1 x hx
    rw [show decide (a.key = x.key) = false by simpa using this]
    exact ih hx (List.pairwise_cons.1 hap).2
theorem findL_none {l : List It} {k : Int} (h : ∀ x ∈ l,x.key ≠ k) : findL l k = none := by
 unfold findL
 rw [List.find?_eq_none]
 intro x hx
 simpa using h x (by simpa using hx)
theorem findL_mem {l : List It} {k : Int} {x : It} (h : findL l k = some x) : x ∈ l ∧ x.key = k := by
 unfold findL at h
 have h1 := List.mem_of_find?_eq_some h
 have h2 := List.find?_some h
 exact ⟨by simpa using h1,by simpa using h2⟩
end Pl
end
section
namespace Pl
structure Mp where
 st : Nat → List It
 live : Int
 garb : Int
def stripe (k : Int) : Int := k * 11400714819323198485 % 18446744073709551616 / 2305843009213693952
theorem stripe_range (k : Int) : 0 ≤ stripe k ∧ stripe k < 8 := by unfold stripe; omega
def sumSz (l : List It) : Int := (l.map fun x => szR x.size).sum
def cat (m : Mp) : List It := (List.range 8).flatMap m.st
def Stripes (m : Mp) : Prop := ∀ s,s < 8 → VL (m.st s) ∧ ∀ x ∈ m.st s,stripe x.key = (s : Int)
def MV (m : Mp) : Prop := Stripes m ∧ m.live = sumSz (cat m) ∧ 0 ≤ m.garb ∧ m.garb ≤ 1099511627776
def items (m : Mp) : List It := srt (cat m)
theorem apart_flat (m : Mp) (h : Stripes m) : ∀ n,n ≤ 8 → Apart ((List.range n).flatMap m.st)
 | 0,_ => by simp [Apart]
 | n + 1,hn => by
  rw [List.range_succ,List.flatMap_append]
  refine List.pairwise_append.2 ⟨apart_flat m h n (by omega),?_,?_⟩
  · have := (h n (by omega)).1.1.apart
    simpa [Apart] using this
  · intro a ha b hb e
    obtain ⟨s,hs,ha⟩ := List.mem_flatMap.1 ha
    have hs' := List.mem_range.1 hs
    have hb' : b ∈ m.st n := by simpa using hb
    have h1 := (h s (by omega)).2 a ha
    have h2 := (h n (by omega)).2 b hb'
    rw [e,h2] at h1
    omega
theorem apart_cat {m : Mp} (h : Stripes m) : Apart (cat m) := apart_flat m h 8 (by omega)
theorem mem_cat {m : Mp} {x : It} : x ∈ cat m ↔ ∃ s,s < 8 ∧ x ∈ m.st s := by
 unfold cat
 simp [List.mem_flatMap]
theorem ok_cat {m : Mp} (h : Stripes m) : ∀ x ∈ cat m,okIt x = true := fun x hx => by
 obtain ⟨s,hs,hx⟩ := mem_cat.1 hx
 exact (h s hs).1.2 x hx
theorem apart_items {m : Mp} (h : Stripes m) : Apart (items m) := (asc_srt _).apart
theorem mem_items {m : Mp} (h : Stripes m) {x : It} : x ∈ items m ↔ x ∈ cat m := (perm_srt (apart_cat h)).mem_iff
theorem ok_items {m : Mp} (h : Stripes m) : ∀ x ∈ items m,okIt x = true := fun x hx => ok_cat h x ((mem_items h).1 hx)
theorem find_items {m : Mp} (h : Stripes m) (k : Int) : findL (items m) k = findL (m.st (stripe k).toNat) k := by
 have hr := stripe_range k
 have hs : (stripe k).toNat < 8 := by omega
 cases hf : findL (m.st (stripe k).toNat) k with
 | some x =>
  obtain ⟨hx,rfl⟩ := findL_mem hf
  exact findL_some (apart_items h) ((mem_items h).2 (mem_cat.2 ⟨_,hs,hx⟩))
 | none =>
  refine findL_none fun x hx e => ?_
  obtain ⟨s,hs',hx'⟩ := mem_cat.1 ((mem_items h).1 hx)
  have h1 := (h s hs').2 x hx'
  have h2 : s = (stripe k).toNat := by rw [← e]; omega
  subst h2
  have := findL_some (h _ hs).1.1.apart hx'
  rw [e,hf] at this
  cases this
theorem asc_length {l : List It} (h : asc l) (lo hi : Int) (hk : ∀ x ∈ l,lo ≤ x.key ∧ x.key < hi) : (l.length : Int) ≤ max 0 (hi - lo) := by
 induction l generalizing lo with
 | nil => simp; omega
 | cons a l ih =>
  have h' := List.pairwise_cons.1 h
  have ha := hk a (by simp)
  have := ih h'.2 (a.key + 1) fun x hx => ⟨by have := h'.1 x hx; omega,(hk x (by simp [hx])).2⟩
  simp only [List.length_cons]
  omega
structure Gn where
 num : Int
 rev : Int
 mode : Int
 size : Int
 map : Mp
def GV (g : Gn) : Prop :=
 (1 ≤ g.num ∧ g.num ≤ 8 ∧ 0 ≤ g.rev ∧ g.rev < 4294967296 ∧ 1 ≤ g.mode ∧ g.mode ≤ 3) ∧
 (16 ≤ g.size ∧ g.size ≤ 1048576 ∧ g.size % 8 = 0) ∧ MV g.map ∧
 ((items g.map).Pairwise Clear ∧ ∀ x ∈ items g.map,ends x ≤ g.size) ∧ g.size = 16 + g.map.live + g.map.garb
end Pl
end
section
open Go.RowKit
section
variable {ρ : List L} {Q : Lf × List L → Prop} {k : Fir}
theorem wp_op' {nd : Nd} : (Fir.op nd k).wp ρ Q = ∃ ls,nd.ev ρ = some ls ∧ k.wp (ρ ++ ls) Q := by
 rw [wp_op]; cases nd.ev ρ <;> simp
theorem ex_map {o : Option L} {P : List L → Prop} : (∃ ls,o.map ([·]) = some ls ∧ P ls) = ∃ l,o = some l ∧ P [l] := by
 apply propext; cases o <;> simp
theorem w_bi {op : BinOp} {kd : IntKind} {x y : At} : (Fir.op (.bi op kd x y) k).wp ρ Q = ∃ l,binI op kd (x.ev ρ).asI (y.ev ρ).asI = some l ∧ k.wp (ρ ++ [l]) Q := by
 rw [wp_op']; simp only [Nd.ev]; exact ex_map
theorem w_bs {op : BinOp} {x y : At} : (Fir.op (.bs op x y) k).wp ρ Q = ∃ l,binS op (x.ev ρ).asS (y.ev ρ).asS = some l ∧ k.wp (ρ ++ [l]) Q := by
 rw [wp_op']; simp only [Nd.ev]; exact ex_map
theorem w_bb {op : BinOp} {x y : At} : (Fir.op (.bb op x y) k).wp ρ Q = ∃ l,binB op (x.ev ρ).asB (y.ev ρ).asB = some l ∧ k.wp (ρ ++ [l]) Q := by
 rw [wp_op']; simp only [Nd.ev]; exact ex_map
theorem w_not {x : At} : (Fir.op (.not x) k).wp ρ Q = k.wp (ρ ++ [.b (!(x.ev ρ).asB)]) Q := by rw [wp_op']; simp [Nd.ev]
theorem w_conv {kd : IntKind} {x : At} : (Fir.op (.conv kd x) k).wp ρ Q = k.wp (ρ ++ [.i (kd.wrap (x.ev ρ).asI)]) Q := by rw [wp_op']; simp [Nd.ev]
theorem w_len {x : At} : (Fir.op (.len x) k).wp ρ Q = k.wp (ρ ++ [.i (x.ev ρ).asR.length]) Q := by rw [wp_op']; simp [Nd.ev]
theorem w_row {x i : At} {n : Nat} : (Fir.op (.row x i n) k).wp ρ Q = (0 ≤ (i.ev ρ).asI ∧ ∃ r,(x.ev ρ).asR[(i.ev ρ).asI.toNat]? = some r ∧ r.length = n ∧ k.wp (ρ ++ [.c r]) Q) := by
 rw [wp_op']; simp only [Nd.ev]
 apply propext
 by_cases h0 : 0 ≤ (i.ev ρ).asI
 · simp only [h0,if_true,true_and]
   cases (x.ev ρ).asR[(i.ev ρ).asI.toNat]? with
   | none => simp
   | some r => by_cases hr : r.length = n <;> simp [hr]
 · simp [h0]
theorem w_rc {x i : At} {j : Nat} {kd : Kd} : (Fir.op (.rc x i j kd) k).wp ρ Q = ∃ r,(x.ev ρ).asR[(i.ev ρ).asI.toNat]? = some r ∧ ∃ q,r[j]? = some q ∧ ∃ l,kd.of q = some l ∧ k.wp (ρ ++ [l]) Q := by
 rw [wp_op']; simp only [Nd.ev]
 apply propext
 cases (x.ev ρ).asR[(i.ev ρ).asI.toNat]? with
 | none => simp
 | some r => cases hr : r[j]? with
  | none => simp [hr]
  | some q => simp only [Option.some.injEq,hr,exists_eq_left']; exact iff_of_eq ex_map
theorem w_cl {x : At} {j : Nat} {kd : Kd} : (Fir.op (.cl x j kd) k).wp ρ Q = ∃ q,(x.ev ρ).asC[j]? = some q ∧ ∃ l,kd.of q = some l ∧ k.wp (ρ ++ [l]) Q := by
 rw [wp_op']; simp only [Nd.ev]
 apply propext
 cases (x.ev ρ).asC[j]? with
 | none => simp
 | some q => simp only [Option.some.injEq,exists_eq_left']; exact iff_of_eq ex_map
theorem opt_if {α : Type} {c : Prop} [Decidable c] {a : α} {P : α → Prop} : (∃ x,(if c then some a else none) = some x ∧ P x) = (c ∧ P a) := by
 apply propext; by_cases h : c <;> simp [h]
theorem w_bnd {i : At} {c : Nat} : (Fir.op (.bnd i c) k).wp ρ Q = ((0 ≤ (i.ev ρ).asI ∧ (i.ev ρ).asI < c) ∧ k.wp (ρ ++ []) Q) := by rw [wp_op']; simp only [Nd.ev]; exact opt_if
theorem w_sel {xs : List At} {i : At} : (Fir.op (.sel xs i) k).wp ρ Q = ∃ x,xs[(i.ev ρ).asI.toNat]? = some x ∧ k.wp (ρ ++ [x.ev ρ]) Q := by
 rw [wp_op']; simp only [Nd.ev]
 cases xs[(i.ev ρ).asI.toNat]? <;> simp
theorem w_upd {x i : At} {n : Nat} {y : At} : (Fir.op (.upd x i n y) k).wp ρ Q = k.wp (ρ ++ [if (i.ev ρ).asI.toNat = n then y.ev ρ else x.ev ρ]) Q := by rw [wp_op']; simp [Nd.ev]
theorem w_part {x lo hi : At} {n : Nat} : (Fir.op (.part x lo hi n) k).wp ρ Q = ((0 ≤ (lo.ev ρ).asI ∧ (lo.ev ρ).asI ≤ (hi.ev ρ).asI ∧ (hi.ev ρ).asI.toNat ≤ (x.ev ρ).asR.length ∧ rectB n (x.ev ρ).asR = true) ∧ k.wp (ρ ++ [.r (((x.ev ρ).asR.take (hi.ev ρ).asI.toNat).drop (lo.ev ρ).asI.toNat)]) Q) := by rw [wp_op']; simp only [Nd.ev]; exact opt_if
theorem w_cut {x lo hi : At} {n : Nat} : (Fir.op (.cut x lo hi n) k).wp ρ Q = ((0 ≤ (lo.ev ρ).asI ∧ (lo.ev ρ).asI ≤ (hi.ev ρ).asI ∧ (hi.ev ρ).asI.toNat ≤ (x.ev ρ).asR.length ∧ headOk n (x.ev ρ).asR = true) ∧ k.wp (ρ ++ [.i (((hi.ev ρ).asI.toNat - (lo.ev ρ).asI.toNat : Nat) : Int)]) Q) := by rw [wp_op']; simp only [Nd.ev]; exact opt_if
theorem w_vw {x lo ln : At} : (Fir.op (.vw x lo ln) k).wp ρ Q = k.wp (ρ ++ [.r (((x.ev ρ).asR.drop (lo.ev ρ).asI.toNat).take (ln.ev ρ).asI.toNat)]) Q := by rw [wp_op']; simp [Nd.ev]
theorem w_tk {x ln : At} : (Fir.op (.tk x ln) k).wp ρ Q = k.wp (ρ ++ [.r ((x.ev ρ).asR.take (ln.ev ρ).asI.toNat)]) Q := by rw [wp_op']; simp [Nd.ev]
theorem w_app {x y : At} {n b : Nat} : (Fir.op (.app x y n b) k).wp ρ Q = (((x.ev ρ).asR.length + (y.ev ρ).asR.length ≤ 9223372036854775807 ∧ ((x.ev ρ).asR.length + (y.ev ρ).asR.length) * b ≤ 140737488355328 ∧ rectB n (x.ev ρ).asR = true ∧ rectB n (y.ev ρ).asR = true) ∧ k.wp (ρ ++ [.r ((x.ev ρ).asR ++ (y.ev ρ).asR)]) Q) := by rw [wp_op']; simp only [Nd.ev]; exact opt_if
theorem w_set {x i : At} {j : Nat} {ps : List (Kd × At)} : (Fir.op (.set x i j ps) k).wp ρ Q = ∃ r,(x.ev ρ).asR[(i.ev ρ).asI.toNat]? = some r ∧ j + ps.length ≤ r.length ∧ k.wp (ρ ++ [.r ((x.ev ρ).asR.set (i.ev ρ).asI.toNat (r.take j ++ pvsOf ρ ps ++ r.drop (j + ps.length)))]) Q := by
 rw [wp_op']; simp only [Nd.ev]
 cases (x.ev ρ).asR[(i.ev ρ).asI.toNat]? with
 | none => simp
 | some r => by_cases hr : j + ps.length ≤ r.length <;> simp [hr]
theorem w_lit {rows : List (List (Kd × At))} : (Fir.op (.lit rows) k).wp ρ Q = k.wp (ρ ++ [.r (rows.map (pvsOf ρ))]) Q := by rw [wp_op']; simp [Nd.ev]
theorem w_mn {x y : At} : (Fir.op (.mn x y) k).wp ρ Q = k.wp (ρ ++ [.i (if (y.ev ρ).asI < (x.ev ρ).asI then (y.ev ρ).asI else (x.ev ρ).asI)]) Q := by rw [wp_op']; simp [Nd.ev]
theorem w_mx {x y : At} : (Fir.op (.mx x y) k).wp ρ Q = k.wp (ρ ++ [.i (if (y.ev ρ).asI > (x.ev ρ).asI then (y.ev ρ).asI else (x.ev ρ).asI)]) Q := by rw [wp_op']; simp [Nd.ev]
theorem w_call {t : Nat} {F : List L → Option (List L)} {args : List At} {n : Nat} {us : List Nat} : (Fir.op (.call t F args n us) k).wp ρ Q = ∃ l,F (args.map (At.ev ρ)) = some l ∧ (l.length = n ∧ (us.all fun i => ((l[i]?).getD (.b false)).asR.all (·.all PV.bare)) = true) ∧ k.wp (ρ ++ l) Q := by
 rw [wp_op']; simp only [Nd.ev]
 apply propext
 cases F (args.map (At.ev ρ)) with
 | none => simp
 | some l => simp only [Option.some.injEq,exists_eq_left']; exact iff_of_eq opt_if
end
theorem w_ite {ρ : List L} {Q : Lf × List L → Prop} {c : At} {a b : Fir} : (Fir.ite c a b).wp ρ Q = (((c.ev ρ).asB = true → a.wp ρ Q) ∧ ((c.ev ρ).asB = false → b.wp ρ Q)) := by
 rw [wp_ite]
 cases (c.ev ρ).asB <;> simp
end
end Go.Proofs.YtndegphojkiblaaGreatDoor
