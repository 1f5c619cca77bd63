/- Towards the last file's theorem: part 45. -/
import Derived.Test.YtndegphojkiblaaGreatDoorG30
set_option linter.all false
set_option maxHeartbeats 4000000
set_option maxRecDepth 100000
namespace Go.Proofs.YtndegphojkiblaaGreatDoor
noncomputable section
section
open Go.RowKit
def O6 (iD F113:List L→Option (List L)) (t113:Nat) (ρ:List L) (acc:List (List PV)) (k:Nat) (r:List PV):Option (List (List PV)):=
 match D8 r with
 |some cs=>match(yI F113 t113).run (BV [(t113,iD)]) 10 (ρ++ [.r acc,.i k]++cs)with
  |some (.jump 0 [a],ρ')=>some (a.ev ρ').ah
  |_=>none
 |none=>none
def Dv (iD F113:List L→Option (List L)) (t113:Nat) (ρ:List L) (gens:List (List PV)):Nat→Option (List (List PV))
 |0=>some []
 |k+1=>match Dv iD F113 t113 ρ gens k,gens[gens.length-1-k]? with
  |some acc,some g=>O6 iD F113 t113 ρ acc (gens.length-1-k) g
  |_,_=>none
def L5 (vc uN iD F113:List L→Option (List L)) (t113:Nat):List L→Option (List L):=fun ls=>match ls with
 | [n,r,m,.r gens,key]=>match vc [n,r,m,.r gens]with
  | some [ok]=>if ok.br=true then
   (if gens.length≤4611686018427387904 then match uN [.r gens]with
    |some []=> (Dv iD F113 t113 [n,r,m,.r gens,key,ok,.b (!ok.br)] gens gens.length).map fun acc=> [.r acc]
    |_=>none
   else none)else some [.r []]
  |_=>none
 |_=>none
section
variable {vc uN iD F40 F112 F113:List L→Option (List L)} {t113:Nat} (wk:∀ls o,vc ls=some o→F40 ls=some o) (R':∀ls o,uN ls=some o→F112 ls=some o) (CW:∀ls o,iD ls=some o→F113 ls=some o)
include CW
theorem ajt {ρ:List L} {acc:List (List PV)} {k:Nat} {r:List PV} {x:List (List PV)} (h:O6 iD F113 t113 ρ acc k r=some x):Bg F113 t113 ρ acc k r=some x:=by
 unfold O6 at h;unfold Bg;split at h
 · rename_i cs hcs;split at h
   · rename_i a ρ' hr;have hc:n_ (BV [(t113,iD)]) (yI F113 t113):=Y9 (cs:=[(t113,F113)]) rfl ⟨fun g hg=>by
      have e:BV [(t113,iD)] t113=some iD:=by
       show cond (Nat.beq t113 t113) (some iD) none=some iD;rw[Nat.beq_refl];rfl
      rw[e]at hg;cases hg;exact CW,trivial⟩
     have hd:(yI F113 t113).aa (ρ++ [.r acc,.i k]++cs)=some (.jump 0 [a],ρ'):=ad.nf hc hr;simp only[hcs];rw[hd];exact h
   · cases h
 · cases h
theorem XF {ρ:List L} {gens:List (List PV)}:∀{n:Nat} {x:List (List PV)},Dv iD F113 t113 ρ gens n=some x→lX F113 t113 ρ gens n=some x
 |0,x,h=>h
 |n+1,x,h=>by
  rw[Dv]at h;split at h
  · rename_i acc g h1 h2;rw[lX,XF h1,h2];exact ajt CW h
  · cases h
include wk R'
theorem ams:∀ls o,L5 vc uN iD F113 t113 ls=some o→xh F40 F112 F113 t113 ls=some o:=fun ls o h=>by
 unfold L5 at h;split at h
 · rename_i n r m gens key;split at h
   · rename_i ok aX;unfold xh;simp only[wk _ _ aX];by_cases hb:ok.br=true
     · rw [au hb]at h⊢;by_cases hl:gens.length≤4611686018427387904
       · rw[au hl]at h⊢;split at h
         · rename_i Io;rw[R' _ _ Io];simp only[aW]at h⊢;obtain⟨acc,h3,h4⟩:=h;exact⟨acc,XF CW h3,h4⟩
         · cases h
       · rw[aE hl]at h;cases h
     · rw[aE hb]at h⊢;exact h
   · cases h
 · cases h
end
theorem jXX {g:List L→Option (List L)} {C f p H cE gG res out tag fn} (h:Gk g (Fo (xF TT C fn cE p H))) (e:(Tryz.prog.funcs[f]?).getD default=fn:=by kernel_rfl):Gk g (mS C f p H cE gG res out tag).F:=by
 subst e;exact h
theorem jXY {g F:List L→Option (List L)} {x} (h:Gk g (Fo x)) (e:F=Fo x:=by kernel_rfl):Gk g F:=e ▸ h
def jX1:=xF TT [] Tryz.f135 sM.cE sM.params sM.H
def adr:=rG jX1 []
theorem aud:Gk adr X_:=jXX (rK [] trivial)
def jg9:=rG Kw []
theorem jk9:Gk jg9 F9:=rK [] trivial
def jX2:=xF TT [] Tryz.f207 s7.cE s7.params s7.H
def jg7:=rG jX2 []
theorem jk7:Gk jg7 F7:=jXX (rK [] trivial)
def jg8:=rG Ox [(7,jg7)]
theorem jk8:Gk jg8 F8:=rK [(7,F7)] ⟨aG rfl jk7,trivial⟩
def abk:=rG Fi [(8,jg8)]
theorem apo:Gk abk wZ:=rK [(8,F8)] ⟨aG rfl jk8,trivial⟩
def Wm:=rG Kp [(84,abk)]
theorem awS:Gk Wm BO:=rK [(84,wZ)] ⟨aG rfl apo,trivial⟩
def abu:=rG OR [(9,jg9),(87,Wm)]
theorem arA:Gk abu BW:=rK [(9,F9),(87,BO)] ⟨aG rfl jk9,aG rfl awS,trivial⟩
def jX3:=xF TT [] Tryz.f171 Fg.cE Fg.params Fg.H
def NP:=rG jX3 []
theorem TG:Gk NP J5:=jXX (rK [] trivial)
def zZ:=rG Px []
theorem xk:Gk zZ F5:=rK [] trivial
def jX4:=xF TT [s5] Tryz.f188 so.cE so.params so.H
def Xn:=rG jX4 [(5,zZ)]
theorem awH:Gk Xn X4:=jXX (rK [(5,F5)] ⟨aG rfl xk,trivial⟩)
def jX5:=xF TT [UP,Fg,so] Tryz.f141 xL.cE xL.params xL.H
def Af:=rG jX5 [(91,abu),(12,NP),(11,Xn)]
theorem DZ:Gk Af zQ:=jXX (rK [(91,BW),(12,J5),(11,X4)] ⟨aG rfl arA,aG rfl TG,aG rfl awH,trivial⟩)
def jX6:=xF TT [] Tryz.f230 ta.cE ta.params ta.H
def V4:=rG jX6 []
theorem awK:Gk V4 F63:=jXX (rK [] trivial)
def Mb:List L→Option (List L):=fun ls=>match V4 ls with|some os=>if os.length=ta.gG then some []else none|none=>none
theorem awX:Gk Mb L6:=fun ls o h=>by
 unfold Mb at h;split at h
 · rename_i os rB;show(match F63 ls with|some os=>if os.length=ta.gG then some []else none|none=>none)=some o;rw[awK _ _ rB];exact h
 · cases h
def jX7:=xF TT [aav,ta] Tryz.f193 I2.cE I2.params I2.H
def Ul:=rG jX7 [(2001,Mb)]
theorem arF:Gk Ul Vi:=jXX (rK [(2001,L6)] ⟨aG rfl awX,trivial⟩)
def J8:List L→Option (List L):=u5
theorem agN:Gk J8 u5:=fun _ _ h=>h
def PN:=rG NB []
theorem abn:Gk PN ym:=rK [] trivial
def jX8:=xF TT [] Tryz.f290 s0.cE s0.params s0.H
def WR:=rG jX8 []
theorem ZZ:Gk WR F0:=jXX (rK [] trivial)
def jX9:=xF TT [s0] Tryz.f249 s1.cE s1.params s1.H
def jg1:=rG jX9 [(0,WR)]
theorem jk1:Gk jg1 F1:=jXX (rK [(0,F0),(0,F0)] ⟨aG rfl ZZ,aG rfl ZZ,trivial⟩)
def jX10:=xF TT [s1] Tryz.f248 s6.cE s6.params s6.H
def jg6:=rG jX10 [(1,jg1)]
theorem jk6:Gk jg6 F6:=jXX (rK [(1,F1)] ⟨aG rfl jk1,trivial⟩)
def jX11:ad:= .bI .add U1 (.i 1)<|.loop [U3,U0] (.bI .lss U4 U2<|.ite U6 (.join (.loop [U4,U5] (.join (.bI .gtr U7 U1<|.ite U9 (.rw U8 U7 4<|.op (.rc U8 U7 0 (.int .u64))<|.op (.rc U8 U7 1 (.int .u32))<|.op (.rc U8 U7 2 (.int .i64))<|.op (.rc U8 U7 3 (.int .i64))<|.bI .sub U7 (.i 1)<|.rw U8 aT 4<|.op (.rc U8 aT 0 (.int .u64))<|.op (.rc U8 aT 1 (.int .u32))<|.op (.rc U8 aT 2 (.int .i64))<|.op (.rc U8 aT 3 (.int .i64))<|.cA 6 F6 [aF,aN,aK,aS,aZ,bB,bD,bJ] 1<|.bI .lss cf (.i 0)<|.j [bZ]) (.j [.b false])) (.ite U9 (.bI .sub U7 (.i 1)<|.bI .sub U7 (.i 1)<|.rw U8 aF 4<|.op (.rc U8 aF 0 (.int .u64))<|.op (.rc U8 aF 1 (.int .u32))<|.op (.rc U8 aF 2 (.int .i64))<|.op (.rc U8 aF 3 (.int .i64))<|.rw U8 U7 4<|.op (.rc U8 U7 0 (.int .u64))<|.op (.rc U8 U7 1 (.int .u32))<|.op (.rc U8 U7 2 (.int .i64))<|.op (.rc U8 U7 3 (.int .i64))<|.rw U8 U7 4<|.op (.set U8 U7 0 [((.int .u64),aK),((.int .u32),aS),((.int .i64),aT),((.int .i64),bq)])<|.rw da aA 4<|.op (.set da aA 0 [((.int .u64),bB),((.int .u32),bD),((.int .i64),bJ),((.int .i64),cf)])<|.bI .sub U7 (.i 1)<|.j [cC,cF]) (.ar (.jump 1 [U8]))))) (.bI .add U4 (.i 1)<|.j [U8,U7])) (.ar (.jump 1 [U5])))
def abX:=rG jX11 [(6,jg6)]
theorem Vy:Gk abX Q3:=jXY (rK [(6,F6)] ⟨aG rfl jk6,trivial⟩)
def jX12:=xF TT [aea,Fe] Tryz.f289 Kg.cE Kg.params Kg.H
def Uy:=rG jX12 [(85,abX)]
theorem axz:Gk Uy F106:=jXX (rK [(85,Q3),(85,Q3),(1091,JN),(1091,JN)] ⟨aG rfl Vy,aG rfl Vy,pC rfl,pC rfl,trivial⟩)
def jX13:=xF TT [Kg] Tryz.f247 F'.cE F'.params F'.H
def NG:=rG jX13 [(106,Uy)]
theorem adE:Gk NG P3:=jXX (rK [(106,F106)] ⟨aG rfl axz,trivial⟩)
def Y7:=rG Qg [(2000,J8),(62,PN),(121,NG)]
theorem aqi:Gk Y7 NL:=rK [(2000,u5),(62,ym),(121,P3)] ⟨aG rfl agN,aG rfl abn,aG rfl adE,trivial⟩
def jX14:=xF TT [] Tryz.f266 OY.cE OY.params OY.H
def acU:=rG jX14 []
theorem axD:Gk acU afS:=jXX (rK [] trivial)
def jX15:=xF TT [OY] Tryz.f229 LX.cE LX.params LX.H
def Vw:=rG jX15 [(157,acU)]
theorem apl:Gk Vw afd:=jXX (rK [(157,afS)] ⟨aG rfl axD,trivial⟩)
def jX16:=xF TT [LX] Tryz.f228 Hz.cE Hz.params Hz.H
def KJ:=rG jX16 [(160,Vw)]
theorem adY:Gk KJ Qd:=jXX (rK [(160,afd)] ⟨aG rfl apl,trivial⟩)
def jX17:=xF TT [Hz] Tryz.f208 OF.cE OF.params OF.H
def YV:=rG jX17 [(161,KJ)]
theorem auj:Gk YV XA:=jXX (rK [(161,Qd)] ⟨aG rfl adY,trivial⟩)
def aez:=rG MJ [(162,YV),(161,KJ)]
theorem aml:Gk aez Po:=rK [(162,XA),(161,Qd)] ⟨aG rfl auj,aG rfl adY,trivial⟩
def ND:=rG Mt [(2000,J8),(62,PN),(121,NG)]
theorem KO:Gk ND Az:=rK [(2000,u5),(62,ym),(121,P3)] ⟨aG rfl agN,aG rfl abn,aG rfl adE,trivial⟩
def jX18:=xF TT [abD,acN,OS] Tryz.f192 KP.cE KP.params KP.H
def UC:=rG jX18 [(134,Y7),(163,aez),(123,ND)]
theorem atk:Gk UC aaM:=jXX (rK [(134,NL),(163,Po),(123,Az),(123,Az)] ⟨aG rfl aqi,aG rfl aml,aG rfl KO,aG rfl KO,trivial⟩)
def jX19:=xF TT [KP,xL,I2] Tryz.f143 zS.cE zS.params zS.H
def Gi:=rG jX19 [(92,Af),(64,Ul),(166,UC)]
theorem Qh:Gk Gi Hd:=jXX (rK [(92,zQ),(64,Vi),(166,aaM)] ⟨aG rfl DZ,aG rfl arF,aG rfl atk,trivial⟩)
def jX20:=xF TT [] Tryz.f265 J1.cE J1.params J1.H
def afG:=rG jX20 []
theorem aoz:Gk afG UK:=jXX (rK [] trivial)
def jX21:=xF TT [J1] Tryz.f225 JI.cE JI.params JI.H
def afF:=rG jX21 [(82,afG)]
theorem anp:Gk afF F89:=jXX (rK [(82,UK)] ⟨aG rfl aoz,trivial⟩)
def jX22:=xF TT [] Tryz.f226 s2.cE s2.params s2.H
def jg2:=rG jX22 []
theorem jk2:Gk jg2 F2:=jXX (rK [] trivial)
def jX23:=xF TT [s2] Tryz.f191 s3.cE s3.params s3.H
def jg3:=rG jX23 [(2,jg2)]
theorem jk3:Gk jg3 F3:=jXX (rK [(2,F2),(2,F2)] ⟨aG rfl jk2,aG rfl jk2,trivial⟩)
def jX24:=xF TT [s3] Tryz.f190 EO.cE EO.params EO.H
def Om:=rG jX24 [(3,jg3)]
theorem T6:Gk Om Pq:=jXX (rK [(3,F3)] ⟨aG rfl jk3,trivial⟩)
def jX25:ad:= .bI .add U1 (.i 1)<|.loop [U3,U0] (.bI .lss U4 U2<|.ite U6 (.join (.loop [U4,U5] (.join (.bI .gtr U7 U1<|.ite U9 (.rw U8 U7 4<|.op (.rc U8 U7 0 (.int .u64))<|.op (.rc U8 U7 1 (.int .u32))<|.op (.rc U8 U7 2 (.int .i64))<|.op (.rc U8 U7 3 (.int .i64))<|.bI .sub U7 (.i 1)<|.rw U8 aT 4<|.op (.rc U8 aT 0 (.int .u64))<|.op (.rc U8 aT 1 (.int .u32))<|.op (.rc U8 aT 2 (.int .i64))<|.op (.rc U8 aT 3 (.int .i64))<|.cA 13 Pq [aF,aN,aK,aS,aZ,bB,bD,bJ] 1<|.bI .lss cf (.i 0)<|.j [bZ]) (.j [.b false])) (.ite U9 (.bI .sub U7 (.i 1)<|.bI .sub U7 (.i 1)<|.rw U8 aF 4<|.op (.rc U8 aF 0 (.int .u64))<|.op (.rc U8 aF 1 (.int .u32))<|.op (.rc U8 aF 2 (.int .i64))<|.op (.rc U8 aF 3 (.int .i64))<|.rw U8 U7 4<|.op (.rc U8 U7 0 (.int .u64))<|.op (.rc U8 U7 1 (.int .u32))<|.op (.rc U8 U7 2 (.int .i64))<|.op (.rc U8 U7 3 (.int .i64))<|.rw U8 U7 4<|.op (.set U8 U7 0 [((.int .u64),aK),((.int .u32),aS),((.int .i64),aT),((.int .i64),bq)])<|.rw da aA 4<|.op (.set da aA 0 [((.int .u64),bB),((.int .u32),bD),((.int .i64),bJ),((.int .i64),cf)])<|.bI .sub U7 (.i 1)<|.j [cC,cF]) (.ar (.jump 1 [U8]))))) (.bI .add U4 (.i 1)<|.j [U8,U7])) (.ar (.jump 1 [U5])))
def We:=rG jX25 [(13,Om)]
theorem azJ:Gk We X5:=jXY (rK [(13,Pq)] ⟨aG rfl T6,trivial⟩)
def jX26:ad:= .loop [U1,U2,U3,.b true,.b true] (.bI .sub U5 U4<|.bI .leq U9 (.i 12)<|.ite aA (.cA 133 X5 [U0,U4,U5] 1<|.ar (.jump 1 [aF])) (.bI .eql U6 (.i 0)<|.ite aF (.cA 1145 aeW [U0,U4,U5] 0<|.ar (.jump 1 [U0])) (.join (.no U7<|.ite aN (.cA 1161 abN [U0,U4,U5] 0<|.bI .sub U6 (.i 1)<|.j [aK]) (.j [U6])) (.cA 1167 abU [U0,U4,U5] 0<|.join (.ite U7 (.ite U8 (.j []) (.j [])) (.j [])) (.join (.bI .gtr U4 (.i 0)<|.ite aK (.bI .sub U4 (.i 1)<|.rw U0 aS 4<|.op (.rc U0 aS 0 (.int .u64))<|.op (.rc U0 aS 1 (.int .u32))<|.op (.rc U0 aS 2 (.int .i64))<|.op (.rc U0 aS 3 (.int .i64))<|.rw U0 (.i 0) 4<|.op (.rc U0 (.i 0) 0 (.int .u64))<|.op (.rc U0 (.i 0) 1 (.int .u32))<|.op (.rc U0 (.i 0) 2 (.int .i64))<|.op (.rc U0 (.i 0) 3 (.int .i64))<|.cA 13 Pq [bq,aZ,bB,bD,cf,bZ,da,dm] 1<|.bI .lss cF (.i 0)<|.no cC<|.j [cL]) (.j [.b false])) (.ite aK (.cA 1170 V2 [U0,U4,U5,.i 0] 0<|.j [.i 0,U5,aN,U7,U8]) (.cA 1183 YP [U0,U4,U5,.i 0] 0<|.bI .sub (.i 0) U4<|.bI .sub U5 (.i 0)<|.bI .quo U9 (.i 8)<|.bI .lss aS aT<|.ite aZ (.bI .geq aS bq<|.cA 1811 Lp [U0,U4,.i 0,aN] 0<|.j [.i 1,U5,aN,bB,.b false]) (.bI .geq aT bq<|.cA 1811 Lp [U0,.i 1,U5,aN] 0<|.j [U4,.i 0,aN,bB,.b false]))))))))
def X6:=rG jX26 [(133,We),(13,Om)]
theorem ayu:Gk X6 Td:=jXY (rK [(133,X5),(1145,aeW),(1161,abN),(1167,abU),(13,Pq),(1170,V2),(1183,YP),(1811,Lp),(1811,Lp)] ⟨aG rfl azJ,pC rfl,pC rfl,pC rfl,aG rfl T6,pC rfl,pC rfl,pC rfl,pC rfl,trivial⟩)
def jX27:=xF TT [Pa,JI] Tryz.f189 Nv.cE Nv.params Nv.H
def acb:=rG jX27 [(89,afF),(177,X6)]
theorem akH:Gk acb YL:=jXX (rK [(89,F89),(177,Td)] ⟨aG rfl anp,aG rfl ayu,trivial⟩)
def jX28:=xF TT [Nv,s5] Tryz.f142 ES.cE ES.params ES.H
def Lz:=rG jX28 [(185,acb),(5,zZ)]
theorem agO:Gk Lz KG:=jXX (rK [(185,YL),(5,F5)] ⟨aG rfl akH,aG rfl xk,trivial⟩)
def jX29:ad:= .join (.bI .lss U0 (.i 1)<|.ite U6 (.j [.b true]) (.bI .gtr U0 (.i 8)<|.ite U7 (.j [.b true]) (.bI .lss U1 (.i 0)<|.ite U8 (.j [.b true]) (.bI .gtr U1 (.i 4294967295)<|.ite U9 (.j [.b true]) (.bI .lss U2 (.i 1)<|.ite aA (.j [.b true]) (.bI .gtr U2 (.i 3)<|.j [aF])))))) (.ite U6 (.j [.b false]) (.join (.bI .lss U3 (.i 16)<|.ite U7 (.j [.b true]) (.bI .gtr U3 (.i 1048576)<|.ite U8 (.j [.b true]) (.bI .rem U3 (.i 8)<|.bI .neq U9 (.i 0)<|.ite aA (.j [.b true]) (.cA 92 zQ [.r0,.r0,.r0,.r0,.r0,.r0,.r0,.r0,U4,U5] 1<|.no aF<|.j [aN])))) (.ite U7 (.j [.b false]) (.join (.cA 168 Hd [.r0,.r0,.r0,.r0,.r0,.r0,.r0,.r0,U4,U5] 1<|.cA 186 KG [U8,U3] 2<|.ite U9 (.bI .add (.i 16) U4<|.bI .add aF U5<|.bI .eql U3 aN<|.j [aK]) (.j [.b false])) (.j [U8])))))
def XP:=rG jX29 [(92,Af),(168,Gi),(186,Lz)]
theorem axg:Gk XP T0:=jXY (rK [(92,zQ),(168,Hd),(186,KG)] ⟨aG rfl DZ,aG rfl Qh,aG rfl agO,trivial⟩)
def jX30:=xF TT [BM,sM] Tryz.f71 PF.cE PF.params PF.H
def S_:=rG jX30 [(10,adr),(188,XP)]
theorem aDx:Gk S_ abg:=jXX (rK [(10,X_),(188,T0)] ⟨aG rfl aud,aG rfl axg,trivial⟩)
def jX31:ad:= .join (.bI .lss U0 (.i 1)<|.ite aS (.j [.b true]) (.bI .gtr U0 (.i 8)<|.ite aT (.j [.b true]) (.bI .lss U1 (.i 0)<|.ite bq (.j [.b true]) (.bI .gtr U1 (.i 4294967295)<|.ite aZ (.j [.b true]) (.bI .lss U2 (.i 1)<|.ite bB (.j [.b true]) (.bI .gtr U2 (.i 3)<|.j [bD])))))) (.ite aS (.j [.b false]) (.join (.bI .lss U3 (.i 16)<|.ite aT (.j [.b true]) (.bI .gtr U3 (.i 1048576)<|.ite bq (.j [.b true]) (.bI .rem U3 (.i 8)<|.bI .neq aZ (.i 0)<|.ite bB (.j [.b true]) (.cA 92 zQ [U4,U5,U6,U7,U8,U9,aA,aF,aN,aK] 1<|.no bD<|.j [bJ])))) (.ite aT (.j [.b false]) (.join (.cA 168 Hd [U4,U5,U6,U7,U8,U9,aA,aF,aN,aK] 1<|.cA 186 KG [bq,U3] 2<|.ite aZ (.bI .add (.i 16) aN<|.bI .add bD aK<|.bI .eql U3 bJ<|.j [cf]) (.j [.b false])) (.j [bq])))))
def Kq:=rG jX31 [(92,Af),(168,Gi),(186,Lz)]
theorem aeN:Gk Kq Mc:=jXY (rK [(92,zQ),(168,Hd),(186,KG)] ⟨aG rfl DZ,aG rfl Qh,aG rfl agO,trivial⟩)
def jX32:=xF TT [zS] Tryz.f85 EF.cE EF.params EF.H
def ML:=rG jX32 [(168,Gi)]
theorem adF:Gk ML LJ:=jXX (rK [(168,Hd)] ⟨aG rfl Qh,trivial⟩)
def jX33:ad:= .join (.bI .lss U0 (.i 0)<|.ite U4 (.j [.b true]) (.bI .geq U0 (.i 4)<|.ite U5 (.j [.b true]) (.cA 5 F5 [.i 4096] 1<|.bI .add (.i 16) U6<|.bI .lss U1 U7<|.ite U8 (.j [.b true]) (.bI .gtr U1 (.i 262144)<|.j [U9])))) (.ite U4 (.j [.b false]) (.join (.ln U3<|.bI .lss U5 (.i 1)<|.ite U6 (.j [.b true]) (.ln U3<|.bI .gtr U7 (.i 8)<|.j [U8])) (.ite U5 (.j [.b false]) (.join (.ln U3<|.loop [.i 0] (.bI .lss U7 U6<|.ite U8 (.rw U3 U7 14<|.op (.rc U3 U7 0 (.int .i64))<|.op (.rc U3 U7 1 (.int .i64))<|.op (.rc U3 U7 2 (.int .i64))<|.op (.rc U3 U7 3 (.int .i64))<|.op (.rc U3 U7 4 .sl)<|.op (.rc U3 U7 5 .sl)<|.op (.rc U3 U7 6 .sl)<|.op (.rc U3 U7 7 .sl)<|.op (.rc U3 U7 8 .sl)<|.op (.rc U3 U7 9 .sl)<|.op (.rc U3 U7 10 .sl)<|.op (.rc U3 U7 11 .sl)<|.op (.rc U3 U7 12 (.int .i64))<|.op (.rc U3 U7 13 (.int .i64))<|.ln U3<|.bI .sub dm (.i 1)<|.bI .eql U7 cF<|.join (.cA 187 Mc [aA,aF,aN,aK,aS,aT,bq,aZ,bB,bD,bJ,cf,bZ,da] 1<|.no cL<|.ite dE (.j [.b true]) (.bI .gtr U7 (.i 0)<|.ite cY (.bI .sub U7 (.i 1)<|.rw U3 ed 14<|.op (.rc U3 ed 0 (.int .i64))<|.bI .leq aA eb<|.ite dU (.j [.b true]) (.bI .eql aN (.i 1)<|.op (.bb .neq fc cC)<|.ite mX (.j [.b true]) (.bI .mul (.i 2) U1<|.bI .gtr aK pg<|.j [qD]))) (.bI .eql aN (.i 1)<|.op (.bb .neq ed cC)<|.ite eU (.j [.b true]) (.bI .mul (.i 2) U1<|.bI .gtr aK eb<|.j [dU])))) (.ite cL (.ar (.jump 2 [.b false])) (.bI .add U7 (.i 1)<|.j [dE]))) (.ar (.jump 1 [])))) (.ln U3<|.bI .sub U6 (.i 1)<|.rw U3 U7 14<|.op (.rc U3 U7 0 (.int .i64))<|.op (.rc U3 U7 1 (.int .i64))<|.op (.rc U3 U7 2 (.int .i64))<|.op (.rc U3 U7 3 (.int .i64))<|.op (.rc U3 U7 4 .sl)<|.op (.rc U3 U7 5 .sl)<|.op (.rc U3 U7 6 .sl)<|.op (.rc U3 U7 7 .sl)<|.op (.rc U3 U7 8 .sl)<|.op (.rc U3 U7 9 .sl)<|.op (.rc U3 U7 10 .sl)<|.op (.rc U3 U7 11 .sl)<|.op (.rc U3 U7 12 (.int .i64))<|.op (.rc U3 U7 13 (.int .i64))<|.cA 171 LJ [aK,aS,aT,bq,aZ,bB,bD,bJ,cf,bZ] 1<|.cA 5 F5 [.i 0] 1<|.bI .mul da dm<|.bI .add aN cF<|.bI .mul (.i 2) U1<|.bI .leq cC cL<|.j [dE])))))
def YC:=rG jX33 [(5,zZ),(187,Kq),(171,ML)]
theorem aCW:Gk YC afP:=jXY (rK [(5,F5),(187,Mc),(171,LJ),(5,F5)] ⟨aG rfl xk,aG rfl aeN,aG rfl adF,aG rfl xk,trivial⟩)
def jX34:=xF TT [Ei,Ds,PF] Tryz.f32 Gq.cE Gq.params Gq.H
def S7:=rG jX34 [(189,S_),(418,YC)]
theorem ayM:Gk S7 J4:=jXX (rK [(189,abg),(418,afP)] ⟨aG rfl aDx,aG rfl aCW,trivial⟩)
def To:List L→Option (List L):=S7
theorem aAJ:Gk To S9:=ayM
def jX35:=xF TT [] Tryz.f33 DR.cE DR.params DR.H
def UJ:=rG jX35 []
theorem aBA:Gk UJ D7:=jXX (rK [] trivial)
def TI:=rG Lt []
theorem aEq:Gk TI AV:=rK [] trivial
def agU:List L→Option (List L):=TI
theorem anF:Gk agU Fj:=aEq
def jX36:=xF TT [] Tryz.f22 JU.cE JU.params JU.H
def Z8:=rG jX36 []
theorem amJ:Gk Z8 WO:=jXX (rK [] trivial)
def jX37:ad:= .join (.bI .lss U0 (.i 0)<|.ite U4 (.j [.b true]) (.bI .geq U0 (.i 4)<|.ite U5 (.j [.b true]) (.cA 5 F5 [.i 4096] 1<|.bI .add (.i 16) U6<|.bI .lss U1 U7<|.ite U8 (.j [.b true]) (.bI .gtr U1 (.i 262144)<|.j [U9])))) (.ite U4 (.j [.b false]) (.join (.ln U3<|.bI .lss U5 (.i 1)<|.ite U6 (.j [.b true]) (.ln U3<|.bI .gtr U7 (.i 8)<|.j [U8])) (.ite U5 (.j [.b false]) (.join (.ln U3<|.loop [.i 0] (.bI .lss U7 U6<|.ite U8 (.rw U3 U7 14<|.cl U9 0 (.int .i64)<|.cl U9 1 (.int .i64)<|.cl U9 2 (.int .i64)<|.cl U9 3 (.int .i64)<|.cl U9 4 .sl<|.cl U9 5 .sl<|.cl U9 6 .sl<|.cl U9 7 .sl<|.cl U9 8 .sl<|.cl U9 9 .sl<|.cl U9 10 .sl<|.cl U9 11 .sl<|.cl U9 12 (.int .i64)<|.cl U9 13 (.int .i64)<|.ln U3<|.bI .sub dm (.i 1)<|.bI .eql U7 cF<|.join (.cA 187 Mc [aA,aF,aN,aK,aS,aT,bq,aZ,bB,bD,bJ,cf,bZ,da] 1<|.no cL<|.ite dE (.j [.b true]) (.bI .gtr U7 (.i 0)<|.ite cY (.bI .sub U7 (.i 1)<|.rw U3 ed 14<|.cl eU 0 (.int .i64)<|.bI .leq aA eb<|.ite dU (.j [.b true]) (.bI .eql aN (.i 1)<|.op (.bb .neq fc cC)<|.ite mX (.j [.b true]) (.bI .mul (.i 2) U1<|.bI .gtr aK pg<|.j [qD]))) (.bI .eql aN (.i 1)<|.op (.bb .neq ed cC)<|.ite eU (.j [.b true]) (.bI .mul (.i 2) U1<|.bI .gtr aK eb<|.j [dU])))) (.ite cL (.ar (.jump 2 [.b false])) (.bI .add U7 (.i 1)<|.j [dE]))) (.ar (.jump 1 [])))) (.ln U3<|.bI .sub U6 (.i 1)<|.rw U3 U7 14<|.cl U8 0 (.int .i64)<|.cl U8 1 (.int .i64)<|.cl U8 2 (.int .i64)<|.cl U8 3 (.int .i64)<|.cl U8 4 .sl<|.cl U8 5 .sl<|.cl U8 6 .sl<|.cl U8 7 .sl<|.cl U8 8 .sl<|.cl U8 9 .sl<|.cl U8 10 .sl<|.cl U8 11 .sl<|.cl U8 12 (.int .i64)<|.cl U8 13 (.int .i64)<|.cA 171 LJ [aK,aS,aT,bq,aZ,bB,bD,bJ,cf,bZ] 1<|.cA 5 F5 [.i 0] 1<|.bI .mul da dm<|.bI .add aN cF<|.bI .mul (.i 2) U1<|.bI .leq cC cL<|.j [dE])))))
def Oh:=rG jX37 [(5,zZ),(187,Kq),(171,ML)]
theorem acO:Gk Oh Bz:=jXY (rK [(5,F5),(187,Mc),(171,LJ),(5,F5)] ⟨aG rfl xk,aG rfl aeN,aG rfl adF,aG rfl xk,trivial⟩)
def jX38:=xF TT [] Tryz.f112 s4.cE s4.params s4.H
def jg4:=rG jX38 []
theorem jk4:Gk jg4 F4:=jXX (rK [] trivial)
def jX39:=xF TT [] Tryz.f251 PO.cE PO.params PO.H
def Un:=rG jX39 []
theorem aAS:Gk Un Uk:=jXX (rK [] trivial)
def jX40:=xF TT [PO] Tryz.f250 KN.cE KN.params KN.H
def Zj:=rG jX40 [(83,Un)]
theorem aFw:Gk Zj F88:=jXX (rK [(83,Uk)] ⟨aG rfl aAS,trivial⟩)
def jX41:=xF TT [KN] Tryz.f219 KV.cE KV.params KV.H
def agH:=rG jX41 [(88,Zj)]
theorem arG:Gk agH F90:=jXX (rK [(88,F88)] ⟨aG rfl aFw,trivial⟩)
def jX42:=xF TT [OS,KV] Tryz.f170 N3.cE N3.params N3.H
def Ze:=rG jX42 [(123,ND),(90,agH)]
theorem aAL:Gk Ze VS:=jXX (rK [(123,Az),(90,F90)] ⟨aG rfl KO,aG rfl arG,trivial⟩)
def jX43:=xF TT [N3,xL,Fg] Tryz.f113 X7.cE X7.params X7.H
def aaf:=rG jX43 [(92,Af),(12,NP),(124,Ze)]
theorem axL:Gk aaf Cf:=jXX (rK [(92,zQ),(12,J5),(124,VS)] ⟨aG rfl DZ,aG rfl TG,aG rfl aAL,trivial⟩)
def WV:List L→Option (List L):=L5 Oh jg4 aaf Cf 125
theorem azD:Gk WV abf:=ams acO jk4 axL
def jX44:=xF TT [acQ] Tryz.f29 PH.cE PH.params PH.H
def acR:=rG jX44 [(2002,WV)]
theorem aAy:Gk acR XC:=jXX (rK [(2002,abf)] ⟨aG rfl azD,trivial⟩)
def jX45:=xF TT [PH] Tryz.f41 PB.cE PB.params PB.H
def VD:=rG jX45 [(192,acR)]
theorem awg:Gk VD XK:=jXX (rK [(192,XC)] ⟨aG rfl aAy,trivial⟩)
def jX46:=xF TT [PB,Ei,Ds,Nt] Tryz.f15 LZ.cE LZ.params LZ.H
def agF:=rG jX46 [(190,Oh),(419,VD)]
theorem Vp:Gk agF LV:=jXX (rK [(190,Bz),(419,XK),(1200,arn)] ⟨aG rfl acO,aG rfl awg,pC rfl,trivial⟩)
def jX47:=xF TT [LZ,UT,Gq,DR,Xx,NT,JU] Tryz.f10 VJ.cE VJ.params VJ.H
def akU:=rG jX47 [(2050,To),(35,UJ),(2051,agU),(14,Z8),(420,agF)]
theorem apP:Gk akU E8:=jXX (rK [(2050,S9),(35,D7),(2051,Fj),(14,WO),(420,LV),(420,LV)] ⟨aG rfl aAJ,aG rfl aBA,aG rfl anF,aG rfl amJ,aG rfl Vp,aG rfl Vp,trivial⟩)
theorem aAQ {o:Option (List L)} (h:(match o with|some [.b true]=>true|_=>false)=true):o=some [.b true]:=by
 split at h
 · rfl
 · cases h
theorem adv:E8 []=some [.b true]:=apP _ _ (aAQ kr)
end
end
end Go.Proofs.YtndegphojkiblaaGreatDoor
