/- A part. -/
import Derived.Test.YtiikkkhcolcebaaGreatDoorG15
import Derived.Test.YtiikkkhcolcebaaGreatDoorG21
import Derived.Test.YtiikkkhcolcebaaGreatDoorG23
import Derived.Test.YtiikkkhcolcebaaGreatDoorG25
import Derived.Test.YtiikkkhcolcebaaGreatDoorG26
import Derived.Test.YtiikkkhcolcebaaGreatDoorG27
import Derived.WalkKit
set_option linter.all false
set_option maxHeartbeats 4000000
set_option maxRecDepth 100000
namespace Go.Proofs.YtiikkkhcolcebaaGreatDoor
noncomputable section
section
open Go.RowKit
open Classical
namespace Sd
open Si
theorem Jv{X E args H a w}{k:Nat}{c d e:b9}(b:args.length=3)(hR:Rel X E (iH (k+3) args H) a w)(f:a.tmps[0]?=some c)(g:a.tmps[1]?=some d)(h:a.tmps[2]?=some e):a.tmps= #[c,d,e]++Array.replicate k undef:=by
 have m:a.tmps.size=k+3:=by rw[hR.size];simp[iH,b];omega
 apply Array.ext_getElem?;intro q;by_cases i:q<3
 .have:q=0\/q=1\/q=2:=om;rcases this with rfl|rfl|rfl
  .rw[f,vi (by simp)];rfl
  .rw[g,vi (by simp)];rfl
  .rw[h,vi (by simp)];rfl
 .by_cases n:q<k+3
  .obtain⟨u,j,us,rfl,l,_⟩:=hR.tmps q (.bL []) (by
    show(args.map V.v++List.replicate (k+3-args.length) (.bL []))[q]?=_;rw[kF (by simp[b];omega),Oo,bA (by simp[b];omega)])
   obtain rfl:us= #[]:=Ba l;rw[j,sQ];simp[i,ZN];exact⟨om,rfl⟩
  .rw[Ox om,Ox (by simp;omega)]
theorem alp(w:bX)(g o k:Nat){cur:Array b9}{fz}(b:nc cur.size fz)(j:w.heap[g]?=some (.cells cur 144 fz))(r:0<k)(f:o+k*3<=cur.size):
 ∃d:List b9,d.length=k*3/\∀ty c,(Builtin.clear_ #[55] ty #[.slice (some ⟨g,o,none⟩) k c]).run Tryz.prog w=.ok (.tuple #[]) (w.setRow g (cur.toList.take o++d++cur.toList.drop (o+d.length)).toArray):=by
 obtain⟨s,l,e,m,n⟩:=info_parts Bu;refine⟨(Builtin.zeroCells (#[.string ⟨#[]⟩,.slice none 0 0,.slice none 0 0]:Array b9) k).toList,by simp[size_zeroCells],λty c=>?_⟩;have a:=uK Tryz.prog g o 144 fz (Builtin.zeroCells (#[.string ⟨#[]⟩,.slice none 0 0,.slice none 0 0]:Array b9) k).toList 0 cur w b j (by simp[size_zeroCells];omega) (λu i=>by
  simp only[Builtin.zeroCells,Of,fE,Array.toList_range,jr]at i;obtain⟨q,_,rfl⟩:=i;have:q%3=0\/q%3=1\/q%3=2:=om;rcases this with h|h|h<;>simp[h,Value.oneCell'])
 cases k with
 |zero=>omega
 |succ k=>
  generalize t:w.setRow g _=W at a⊢;have p:∀w,(zeroValue 144).run Tryz.prog w=.ok (.agg #[.string ⟨#[]⟩,.slice none 0 0,.slice none 0 0]) w:=λw=>by simp[zeroValue,typeInfo,l,e]
  simp[Builtin.clear_,run_underlying Tryz.underlying55,p,Value.cells,a]
set_option maxHeartbeats 1000000 in
theorem azB(rows:List (List PV))(i j:Nat)(ad:i<j)(hj:j<=rows.length)(hR:dy 3 rows):
 eC Tryz.prog 209 [.c (.own 0),.c (.p (.sc (.int .i64 i))),.c (.p (.sc (.int .i64 j)))] [.row 144 rows] (.v (.c (.own 1))) [(1,.row 144 (rows.take i++rows.drop j))]:=by
 refine eC.intro Tryz.func209 kr rfl rfl rfl λX hP I=>?_
 intro a w ht;obtain⟨E,o,hg⟩:=ht;rw[hP];have I:X.k0=1:=I;have ae:E.bu=[]:=o.bu;obtain⟨u0,a0,r0⟩:=o.tmps 0 (.v (.c (.own 0))) rfl;obtain⟨u1,a1,r1⟩:=o.tmps 1 (.v (.c (.p (.sc (.int .i64 i))))) rfl;obtain⟨u2,a2,r2⟩:=o.tmps 2 (.v (.c (.p (.sc (.int .i64 j))))) rfl;obtain⟨x,hx,rfl⟩:=cW.get (show RC X.M E w (.own 0) u0 from r0) (by simp[ae]);have af:u1=.int .i64 i:=RP.ek r1;have ag:u2=.int .i64 j:=RP.ek r2;subst af ag;have U:=Jv (k:=30) rfl o a0 a1 a2;have ax:a.tmps.size=33:=by rw[o.size];rfl
 obtain⟨x',cur,fz,k1,A,k2,k3,k4,k5,k6,k7,k8,k9,ah,ai⟩:=o.row (n:=0) (b:=.row 144 rows) (by simp[iH]) rfl;rw[hx]at k1;cases k1;have B:x.sz=3:=k7.trans (by rw[hP];exact BG);obtain⟨ay,ds⟩:=a;simp only at U;subst U;obtain⟨n,hn⟩:∃n,rows.length=n:=⟨_,rfl⟩
 have aj:x.len=n:=om;rw[aj];obtain⟨g,J⟩:∃g,x.g=some g:=by
  cases h:x.g with
  |none=>have:=ah h;omega
  |some g=>exact⟨g,rfl⟩
 have hblk:=k2 g J;rw[J];have az:cur.size=x.cap*3:=by rw[k8,B]
 have ak:n<=x.cap:=om;have al:x.cap<=9223372036854775807:=by have:=k5;simp only[maxLen]at this;omega
 have hval:∀(y:Nat)(r:List PV)(q:Nat)(p:PV),rows[y]?=some r->r[q]?=some p->∃u,cur[y*3+q]?=some u/\RP (bad X.M E) w p u:=λy r q p h1 V=>by
  have:=ai y r q p h1 V
  rwa [B]at this
 obtain⟨i0,W,aA,t,aB⟩:=info_parts Bu;obtain⟨news,K⟩:∃news,news=(cur.toList.drop (j*3)).take ((n-j)*3):=⟨_,rfl⟩
 have L:news.length=(n-j)*3:=by rw[K];simp;omega
 have Y:∀q u,news[q]?=some u->q< (n-j)*3/\cur[j*3+q]?=some u:=λq u s=>by
  rw[K,jc]at s;split at s
  .rename_i h;rw[kC]at s;exact⟨h,by simpa using s⟩
  .cases s
 have D:∀u∈news,u.oneCell'=true:=λu hu=>by
  obtain⟨q,s⟩:=ZL hu;obtain⟨h1,V⟩:=Y q u s;have Z:(j*3+q) /3<rows.length:=om;have hr:=hR _ (cQ Z);obtain⟨u',h3,h4⟩:=hval ((j*3+q) /3) _ ((j*3+q)%3) _ (cY Z) (cY (by rw[hr];omega));rw[show(j*3+q) /3*3+(j*3+q)%3=j*3+q by omega,V]at h3;cases h3;exact h4.rZ
 obtain⟨f,C⟩:∃f:Array b9,f=(cur.toList.take (i*3)++news++cur.toList.drop (i*3+news.length)).toArray:=⟨_,rfl⟩
 have aa:f.size=cur.size:=by rw[C];simp[L];omega
 have am:(w.drew.setRow g f).heap[g]?=some (.cells f 144 fz):=setRow_heap w.drew g cur f 144 fz hblk;obtain⟨S,an,M⟩:∃S:List b9,S.length=(n- (i+(n-j)))*3/\∀ty c,(Builtin.clear_ #[55] ty #[.slice (some ⟨g,(i+(n-j))*3,none⟩) (n- (i+(n-j))) c]).run Tryz.prog (w.drew.setRow g f)=.ok (.tuple #[]) ((w.drew.setRow g f).setRow g (f.toList.take ((i+(n-j))*3)++S++f.toList.drop ((i+(n-j))*3+S.length)).toArray):=
  alp (w.drew.setRow g f) g ((i+(n-j))*3) (n- (i+(n-j))) (fz:=fz) (by rw[aa];exact A.ok) am om om
 obtain⟨l,N⟩:∃l:Array b9,l=(f.toList.take ((i+(n-j))*3)++S++f.toList.drop ((i+(n-j))*3+S.length)).toArray:=⟨_,rfl⟩
 rw[<-N,setRow_setRow]at M;have F:l.size=cur.size:=by rw[N];simp[an];omega
 have ao:E.N 1=none:=by
  cases h:E.N 1 with
  |none=>rfl
  |some z=>have:=o.eJ 1 z h;exact absurd this (by simp[iH])
 have ap:=T0 o (k:=2) (by simp[iH]);have ab:dy 3 (rows.take i++rows.drop j):=(hR.take _).app λr hr=>hR r (nP hr)
 have ac:(rows.take i++rows.drop j).length=i+(n-j):=by simp;omega
 have hf:=ap.take (m:=0) (d:=1) (by show 0<2;decide) hx J (cur:=cur) (us:=l) (e:=144) (fz:=fz) hblk (by rw[F];exact A) ao (by rw[I];exact de _) (by show 1<2;decide) (by simp[iH]) (rows:=rows.take i++rows.drop j)
  (by
   rw[B];exact ab) k6 k7 om k5 (by rw[F,k8]) (λy r q p G T=>by
   rw[B];have aC:=ab r (eb G);have s:=(dO.1 T).1;have aq:=(dO.1 G).1;rw[ac]at aq;have ar:(rows.take i).length=i:=by simp;omega
   rw[lg,ar]at G;have aD:(f.toList.take ((i+(n-j))*3)).length=(i+(n-j))*3:=by simp;omega
   have au:(cur.toList.take (i*3)).length=i*3:=by simp;omega
   have e1:l[y*3+q]?=(cur.toList.take (i*3)++news++cur.toList.drop (i*3+news.length))[y*3+q]?:=by
    rw[N,pT,dI,oY om,jc,bA om,C]
   rw[e1];split at G
   .rename_i av;have h7:rows[y]?=some r:=by rw[jc,bA av]at G;exact G
    obtain⟨u,h8,h9⟩:=hval y r q p h7 T;refine⟨u,?_,h9⟩;rw[dI,oY om,jc,bA om];simpa using h8
   .rw[kC]at G;obtain⟨u,h8,h9⟩:=hval _ r q p G T;refine⟨u,?_,h9⟩;rw[dI,kF om,oY om,au,K,jc,bA om,kC];rw[show j*3+(y*3+q-i*3)=(j+(y-i))*3+q by omega];simpa using h8)
 have hend:∀ts:Array b9,ts.size=33->ts[6]?=some (.slice (some ⟨g,0,none⟩) (i+(n-j)) x.cap)->∃st',nD Tryz.prog [.tmp 6] (.v (.c (.own 1))) [(1,.row 144 (rows.take i++rows.drop j))] .ret st'/\Told X st' ⟨ts,ds⟩ (w.drew.setRow g l):=λts hs t6=>by
  have h1:=C8 hf.1 (a':=⟨ts,ds⟩) (ts:=(List.range 33).map λk=>if k=6 then .v (.c (.own 1))else .v (.c .dead)) rfl (by simp[hs]) (λk v Z=>by
   simp only[cX,bY]at Z;obtain⟨q,s,rfl⟩:=Z;obtain⟨q1,q2⟩:=dO.1 s;simp at q1 q2;subst q2;by_cases T:k=6
   .subst T;refine⟨_,t6,?_⟩;have h:=hf.2;simp only[ac]at h⊢;exact h
   .rw[bH T];exact⟨_,ri (by show k<ts.size;omega),trivial⟩)
  obtain⟨E2,V,h3⟩:=h1.drew.settle;exact⟨_,⟨trivial,rfl,λn b h=>h⟩,E2,V,rfl⟩
 by_cases aw:x.cap=j
 .have O:j=n:=om;have hnil:news=[]:=mN (by rw[L,O];simp);have R:∀ty,(Builtin.append_ #[55,55] ty #[.slice (some ⟨g,0,none⟩) i n,.slice (some ⟨g,0,none⟩) 0 0]).run Tryz.prog w.drew=.ok (.slice (some ⟨g,0,none⟩) i n) (w.drew.setRow g f):=λty=>by
   rw[C,show i*3=i*i0.size by rw[t]];exact BN (P:=Tryz.prog) w.drew 55 ty 144 i0 Tryz.underlying55 W g i n cur A.ok hblk ⟨g,0,none⟩ 0 0 news (by rw[hnil];simp) (λq u s=>by rw[hnil]at s;simp at s) D om (by rw[t];omega)
  have H:=λty=>M ty (n-i)
  have h0:n-j=0:=om;rw[h0]at H hend;have h:=axY (Q:=λe a' w'=>∃st',nD Tryz.prog [.tmp 6] (.v (.c (.own 1))) [(1,.row 144 (rows.take i++rows.drop j))] e st'/\Told X st' a' w') g n i ds w (w.drew.setRow g f) (w.drew.setRow g l) om om (by rw[t]at*;exact R) H (λts h=>hend ts h.1 (by rw[show x.cap=n by omega];exact h.2)) _ rfl;rw[show x.cap=n by omega,O];rw[O]at h;exact h
 .have R:∀ty,(Builtin.append_ #[55,55] ty #[.slice (some ⟨g,0,none⟩) i x.cap,.slice (some ⟨g,j*3,none⟩) (n-j) (x.cap-j)]).run Tryz.prog w.drew=.ok (.slice (some ⟨g,0,none⟩) (i+(n-j)) x.cap) (w.drew.setRow g f):=λty=>by
   rw[C,show i*3=i*i0.size by rw[t]];exact BN (P:=Tryz.prog) w.drew 55 ty 144 i0 Tryz.underlying55 W g i x.cap cur A.ok hblk ⟨g,j*3,none⟩ (n-j) (x.cap-j) news (by rw[t];exact L) (λq u s=>by
    rw[Addr.add_lit,cell_of_row w.drew g _ cur 144 fz hblk];exact(Y q u s).2) D om (by rw[t];omega)
  exact abX (Q:=λe a' w'=>∃st',nD Tryz.prog [.tmp 6] (.v (.c (.own 1))) [(1,.row 144 (rows.take i++rows.drop j))] e st'/\Told X st' a' w') g n x.cap i j ds w _ _ ad om ak aw al R (λty=>M ty _) (λts h=>hend ts h.1 h.2) _ rfl
end Sd
def tE:List L->Option (List L):=λls=>match ls with
 |[.r rows,.i i,.i j]=>if 0<=i/\i<j/\j.toNat<=rows.length/\ct 3 rows=true then some [.r (rows.take i.toNat++rows.drop j.toNat)]else none
 |_=>none
def avs:bw:=⟨209,[.c (.own 0),.c (.p (.int .i64) U1),.c (.p (.int .i64) U2)],[.row 144 U0],3,1,.v (.c (.own 1)),[(1,.row 144 U3)],tE,2075⟩
theorem OV:avs.ok Tryz.prog:=by
 intro ls os g a b;have a:tE ls=some os:=a;unfold tE at a;split at a
 .rename_i rows i j _;split at a
  .rename_i c;obtain⟨d,h,e,f⟩:=c;obtain⟨k,rfl⟩:∃k:Nat,i=(k:Int):=⟨i.toNat,(Bd d).symm⟩
   obtain⟨q,rfl⟩:∃q:Nat,j=(q:Int):=⟨j.toNat,om⟩
   cases a;exact Sd.azB rows k q om e (jk.1 f)
  .cases a
 .cases a
end
section
attribute [local irreducible] Fo
open Go.RowKit
def Yd:bl:=.cA 321 yO [U4] 1<|.no U5<|.ite U6 (.j [.i 1,.i 0,.i 0,.r0]) (.op (.call 684 tY (w 0 4++[.b true]) 5 [])<|.bI .neq U8 (.i 0)<|.ite bG (.j [U8,.i 0,.i 0,.r0]) (.rw bE U7 3<|.op (.rc bE U7 0 .str)<|.op (.rc bE U7 1 .sl)<|.op (.rc bE U7 2 .sl)<|.bI .add U7 (.i 1)<|.cA 2075 tE [bE,U7,bW] 1<|.cA 373 qx [U9,bB,bT,U4] 2<|.join (.ite cp (.rw bT cg 3<|.op (.set bT cg 0 [(.str,U4),(.sl,bQ),(.sl,bU)])<|.j [cj]) (.op (.lit [[(.str,U4),(.sl,bQ),(.sl,bU)]])<|.cA 2074 tG [bT,cg,cL] 1<|.j [cj])) (.j [.i 0,U9,bB,cL])))
def Na:=Fo Yd
def PW:bw:=⟨206,[.agg [pi 0,pi 1,ps 2],.c (.p .str U3),.c (.p .str U4)],[],5,4,.bL [.agg [pi 6,pi 7,.own 0],ci 5],[(0,(.row 144 U8))],Na,685⟩
theorem Kg:Ok PW:=oS (.cons Em (.cons Dm (.cons GP (.cons Qr (.cons OV .nil)))))
def E3:List L->Option (List L):=Na
def abl:bw:=⟨206,[.agg [pi 0,pi 1,ps 2],.c (.p .str U3),.c (.p .str U4)],[],5,4,.bL [.agg [pi 6,pi 7,ps 8],ci 5],[],Na,2062⟩
theorem Tz:abl.ok Tryz.prog:=mJ (s:=PW) Kg rfl (x:=(.v 8)) (e:=144) rfl rfl 2062
def arI:bl:=.op (.call 656 HE (w 0 10) 8 [])<|.join (.op (.call 92 zE (w 11 8++[U8,U9]) 1 [])<|.no cg<|.ite cp (.j [.b true]) (.bI .lss bB (.i 0)<|.ite cL (.j [.b true]) (.bI .sub (.i 1099511627776) U9<|.bI .gtr bB cj<|.j [cm]))) (.ite cg (.bp (.jump 0 (w 11 8++[U8,U9]))) (.op (.call 683 Uv (w 11 8++[U8,U9]) 1 [])<|.cA 3005 KF [.i 0,bB] 1<|.cA 3007 YD [cp,cL] 1<|.op (.call 655 QD (w 11 8++[U8,U9,cj]) 2 [])<|.bp (.jump 0 (w 11 8++[cm,cr]))))
def DY:=Fo arI
def aml:bw:=⟨313,[.agg (dh 0 8++[pi 8,pi 9]),ci 10],[],11,10,.v (.agg (dh 11 8++[pi 19,pi 20])),[],DY,686⟩
theorem O':Ok aml:=oS (.cons agi (.cons Md (.cons aso (.cons acz .nil))))
def atL:bl:=.op (.call 374 p0 (w 0 4) 2 [])<|.bI .neq U7 (.i 0)<|.ite U8 (.j [U7,.r0]) (.rw U2 U6 3<|.cl U9 0 .str<|.cl U9 1 .sl<|.cl U9 2 .sl<|.cA 362 EN [bB,bE,bG] 1<|.ln bN<|.join (.bI .lss U4 (.i 0)<|.ite bQ (.j [.b true]) (.bI .lss U5 (.i 0)<|.ite bU (.j [.b true]) (.bI .gtr U4 bP<|.ite bW (.j [.b true]) (.bI .sub bP U4<|.bI .gtr U5 bT<|.j [cg])))) (.ite bQ (.j [.i 2,.r0]) (.bI .add U4 U5<|.ln bN<|.op (.part bN U4 bU 1)<|.cA 2011 pj [bT] 0<|.j [.i 0,bT])))
def r_:=Fo atL
def aaE:bw:=⟨198,[.agg [pi 0,pi 1,ps 2],.c (.p .str U3),ci 4,ci 5],[],6,2,.bL [.c (.own 0),ci 6],[(0,(.row 5 U7))],r_,376⟩
theorem azT:Ok aaE:=oS (.cons Fv (.cons P8 (.cons uM .nil)))
def atm:bl:=.op (.call 100 Dz (w 0 14++[.i 2,.i 3]) 15 [])<|.bp (.jump 0 (w 14 15))
def Lm:=Fo atm
def aob:bw:=⟨175,[.agg (cI 0 4++dh 4 8++[pi 12,pi 13])],[],14,15,.bL [.agg (cI 15 4++dh 19 8++[pi 27,pi 28]),ci 14],[],Lm,101⟩
theorem afq:Ok aob:=oS (.cons Yk .nil)
def ahR:bl:=.join (.op (.call 103 rV (w 0 4) 1 [])<|.ite U4 (.ln U3<|.bI .sub U5 (.i 1)<|.rw U3 U6 14<|.cl U7 0 (.int .i64)<|.bI .lss U8 (.i 8)<|.j [U9]) (.j [.b false])) (.j [U4])
def GR:=Fo ahR
def avX:bw:=⟨181,[.agg [pi 0,pi 1,.p .bool U2,ps 3]],[],4,1,.v (.c (.p .bool U4)),[],GR,119⟩
theorem awp:Ok avX:=oS (.cons z6 (.cons wq .nil))
def aiy:bl:=.op (.call 103 rV (w 0 4) 1 [])<|.no U4<|.ite U5 (.j [.i 1,.i 0,.i 0,.b false,.r0]) (.op (.call 119 GR (w 0 4) 1 [])<|.no U6<|.ite U7 (.j [.i 9,.i 0,.i 0,.b false,.r0]) (.ln U3<|.bI .sub U8 (.i 1)<|.rw U3 U9 14<|.cl bB 0 (.int .i64)<|.cl bB 1 (.int .i64)<|.cl bB 2 (.int .i64)<|.cl bB 3 (.int .i64)<|.cl bB 4 .sl<|.cl bB 5 .sl<|.cl bB 6 .sl<|.cl bB 7 .sl<|.cl bB 8 .sl<|.cl bB 9 .sl<|.cl bB 10 .sl<|.cl bB 11 .sl<|.cl bB 12 (.int .i64)<|.cl bB 13 (.int .i64)<|.op (.call 102 Lo (w 11 14) 15 [])<|.bI .add cf (.i 1)<|.cA 57 EZ [jO] 4<|.op (.lit [])<|.bI .sub U8 (.i 1)<|.ln U3<|.op (.part U3 (.i 0) w7 14)<|.op (.app jM kb 14 240)<|.op (.lit [[((.int .i64),cf),((.int .i64),cw),((.int .i64),c9),((.int .i64),dX),(.sl,eh),(.sl,eL),(.sl,dP),(.sl,gH),(.sl,gN),(.sl,iq),(.sl,ik),(.sl,jD),((.int .i64),iZ),((.int .i64),jl)],[((.int .i64),mw),((.int .i64),(.i 0)),((.int .i64),ru),((.int .i64),pd),(.sl,.r0),(.sl,.r0),(.sl,.r0),(.sl,.r0),(.sl,.r0),(.sl,.r0),(.sl,.r0),(.sl,.r0),((.int .i64),(.i 0)),((.int .i64),(.i 0))]])<|.op (.app oD wK 14 240)<|.j [.i 0,U0,U1,U2,rJ]))
def EL:=Fo aiy
def aeU:bw:=⟨101,[.agg [pi 0,pi 1,.p .bool U2,ps 3]],[],4,5,.bL [.agg [pi 5,pi 6,.p .bool U7,.own 0],ci 4],[(0,(.row 90 U8))],EL,120⟩
theorem ach:Ok aeU:=oS (.cons awp (.cons z6 (.cons wq (.cons auw (.cons X9 .nil)))))
def T8:bl:=.op (.call 684 tY (w 0 4++[.b true]) 5 [])<|.bI .neq U5 (.i 0)<|.ite U9 (.j [U5,.i 0,.i 0,.r0]) (.rw U8 U4 3<|.op (.rc U8 U4 0 .str)<|.op (.rc U8 U4 1 .sl)<|.op (.rc U8 U4 2 .sl)<|.cA 362 EN [bE,bG,bN] 1<|.op (.set U8 U4 1 [(.sl,bP)])<|.op (.set bQ U4 2 [(.sl,.r0)])<|.j [.i 0,U6,U7,bU])
def LB:=Fo T8
def Wb:bw:=⟨214,[.agg [pi 0,pi 1,ps 2],.c (.p .str U3)],[],4,4,.bL [.agg [pi 5,pi 6,.own 0],ci 4],[(0,(.row 144 U7))],LB,694⟩
theorem Pv:Ok Wb:=oS (.cons Em (.cons P8 .nil))
def MD:List L->Option (List L):=LB
def acN:bw:=⟨214,[.agg [pi 0,pi 1,ps 2],.c (.p .str U3)],[],4,4,.bL [.agg [pi 5,pi 6,ps 7],ci 4],[],LB,2061⟩
theorem afS:acN.ok Tryz.prog:=mJ (s:=Wb) Pv rfl (x:=(.v 7)) (e:=144) rfl rfl 2061
def Ui:bl:=.op (.call 684 tY (w 0 4++[.b false]) 5 [])<|.bI .neq U5 (.i 0)<|.ite U9 (.j [U5,.i 0,.i 0,.r0]) (.ln U8<|.bI .geq bB (.i 256)<|.ite bE (.j [.i 9,.i 0,.i 0,.r0]) (.op (.lit [[(.str,U3),(.sl,.r0),(.sl,.r0)]])<|.cA 2074 tG [U8,U4,bG] 1<|.j [.i 0,U6,U7,bN]))
def JO:=Fo Ui
def PR:bw:=⟨212,[.agg [pi 0,pi 1,ps 2],.c (.p .str U3)],[],4,4,.bL [.agg [pi 5,pi 6,.own 0],ci 4],[(0,(.row 144 U7))],JO,695⟩
theorem Ut:Ok PR:=oS (.cons Em (.cons Qr .nil))
def Hl:List L->Option (List L):=JO
def azd:bw:=⟨212,[.agg [pi 0,pi 1,ps 2],.c (.p .str U3)],[],4,4,.bL [.agg [pi 5,pi 6,ps 7],ci 4],[],JO,2059⟩
theorem axd:azd.ok Tryz.prog:=mJ (s:=PR) Ut rfl (x:=(.v 7)) (e:=144) rfl rfl 2059
def Yi:bl:=.op (.call 684 tY (w 0 4++[.b true]) 5 [])<|.bI .neq U5 (.i 0)<|.ite U9 (.j [U5,.i 0,.i 0,.r0]) (.bI .add U4 (.i 1)<|.cA 2075 tE [U8,U4,bB] 1<|.j [.i 0,U6,U7,bE])
def IG:=Fo Yi
def Us:bw:=⟨132,[.agg [pi 0,pi 1,ps 2],.c (.p .str U3)],[],4,4,.bL [.agg [pi 5,pi 6,.own 0],ci 4],[(0,(.row 144 U7))],IG,696⟩
theorem BE:Ok Us:=oS (.cons Em (.cons OV .nil))
def AD:List L->Option (List L):=IG
def afc:bw:=⟨132,[.agg [pi 0,pi 1,ps 2],.c (.p .str U3)],[],4,4,.bL [.agg [pi 5,pi 6,ps 7],ci 4],[],IG,2058⟩
theorem Kq:afc.ok Tryz.prog:=mJ (s:=Us) BE rfl (x:=(.v 7)) (e:=144) rfl rfl 2058
def aqm:bl:=.op (.call 686 DY (w 4 10++[.i 0]) 10 [])<|.bp (.jump 0 (w 14 10))
def CJ:=Fo aqm
def afI:bw:=⟨271,[.agg (cI 0 4++dh 4 8++[pi 12,pi 13])],[],14,10,.v (.agg (cI 0 4++dh 14 8++[pi 22,pi 23])),[],CJ,697⟩
theorem X7:Ok afI:=oS (.cons O' .nil)
def adQ:bl:=.cA 91 Ad [U0] 1<|.no U1<|.ite U2 (.j [.i 1,.r0]) (.join (.ln U0<|.loop [.i 0,.r0] (.bI .lss U4 U3<|.ite U6 (.rw U0 U4 4<|.cl U7 0 (.int .u64)<|.cl U7 1 (.int .u32)<|.cl U7 2 (.int .i64)<|.cl U7 3 (.int .i64)<|.cA 682 IH [U8,.i 8] 1<|.op (.conv .u64 U9)<|.cA 687 zG [bG,bN,.i 4] 1<|.op (.conv .u64 bB)<|.cA 687 zG [bP,bQ,.i 4] 1<|.op (.conv .u64 bE)<|.cA 687 zG [bU,bW,.i 4] 1<|.op (.app U5 bT 1 1)<|.op (.call 353 Hn [bT] 1 [0])<|.op (.app cg cp 1 1)<|.bI .add U4 (.i 1)<|.j [cj,cL]) (.bp (.jump 1 [U5])))) (.j [.i 0,U3]))
def CA:=Fo adQ
def avO:bw:=⟨267,[cs 0],[],1,2,.bL [.c (.own 0),ci 1],[(0,(.row 5 U2))],CA,698⟩
theorem aef:Ok avO:=oS (.cons aot (.cons aqF (.cons Mo (.cons aax .nil))))
def S8:bl:=.join (.cA 307 mX [U0,U1,U2] 1<|.no U3<|.ite U4 (.j [.b true]) (.bI .neq U0 U1<|.j [U5])) (.ite U3 (.j [.i 1,.i 0,.r0]) (.cA 2010 C2 [U2] 0<|.cA 344 FK [U0] 3<|.join (.loop [.i 0,U2,U6] (.bI .lss U7 U0<|.ite bB (.join (.join (.loop [U7] (.bI .lss bE U0<|.ite bG (.cA 304 mZ [U0,U1,U8,bE,U7] 1<|.cA 305 Ej [bN] 2<|.bI .neq bQ (.i 0)<|.ite bU (.bI .add bE (.i 1)<|.j [bW]) (.cA 359 vA [U0,U1,U8,bE,U7] 1<|.cA 359 vA [U5,U5,U9,bE,U7] 1<|.cA 341 gQ [U0,U1,bW,U7] 2<|.cA 367 w2 [bW,cg,cp,bP] 1<|.cA 341 gQ [U5,U5,bT,U7] 2<|.cA 367 w2 [bT,cj,cm,bP] 1<|.join (.loop [.i 0,cL,cr] (.bI .lss ck U0<|.ite c9 (.join (.cA 304 mZ [U0,U1,cf,ck,U7] 1<|.bI .neq ck U7<|.ite eh (.cA 341 gQ [U0,U1,cf,ck] 2<|.cA 341 gQ [U0,U1,cf,U7] 2<|.op (.call 380 xE ([cf]++w 31 4++[dX]) 1 [])<|.cA 341 gQ [U5,U5,cw,ck] 2<|.cA 341 gQ [U5,U5,cw,U7] 2<|.op (.call 380 xE ([cw]++w 36 4++[dX]) 1 [])<|.j [iq,jO]) (.j [cf,cw])) (.bI .add ck (.i 1)<|.j [eL,dX,eh])) (.bp (.jump 1 [cf,cw])))) (.bp (.jump 2 [ck,cf])))) (.bp (.jump 1 [])))) (.bp (.jump 3 [.i 14,.i 0,.r0]))) (.bI .add U7 (.i 1)<|.j [bN,bE,bG])) (.bp (.jump 1 [U9])))) (.j [.i 0,U5,U7])))
def Cp:=Fo S8
def amN:bw:=⟨232,[.agg [pi 0,pi 1,ps 2]],[],3,3,.bL [.agg [pi 4,pi 4,.own 0],ci 3],[(0,(.row 5 U5))],Cp,384⟩
theorem asT:Ok amN:=oS (.cons wv (.cons amP (.cons afA (.cons avG (.cons D' (.cons E5 (.cons akA (.cons aeA (.cons JS (.cons abv .nil))))))))))
def VC:bl:=.cA 345 D9 [.i 6,.i 4] 4<|.op (.lit [[((.int .i64),(.i 0))],[((.int .i64),(.i 1))],[((.int .i64),(.i 2))],[((.int .i64),(.i 3))]])<|.op (.call 347 vp (w 1 4) 4 [3])<|.op (.call 384 Cp [U6,U7,U8] 3 [2])<|.op (.call 346 DN [U1,U2,U3,bB,bB,bE] 4 [3])<|.j [bN,bP,bQ]
def FP:=Fo VC
def aii:bw:=⟨164,[],[],0,3,.v (.agg [pi 0,pi 1,.own 0]),[(0,(.row 5 U2))],FP,385⟩
theorem abT:Ok aii:=oS (.cons asT (.cons Qn (.cons axP (.cons afx .nil))))
def als:bl:=.ln U0<|.op (.lit [])<|.op (.app U6 U4 4 32)<|.cA 67 BP [U1,U2,U3,U5,.i 0,.i 0,.i 0,.i 0,.i 0,.i 0,U7] 1<|.no U8<|.ite U9 (.j [.i 1,.r0,.i 0,.i 0,.i 0,.i 0,.i 0,.i 0,.i 0,.i 0,.i 0,.i 0,.r0]) (.cA 2003 vk [U0] 1<|.cA 122 IL [bB] 2<|.op (.app bB bE 1 24)<|.join (.loop [.i 0,.i 0,.i 0,.i 0,.i 0,.i 0,.i 0] (.bI .lss bP (.i 6)<|.ite cL (.join (.rw bN bP 1<|.op (.rc bN bP 0 .sl)<|.cA 38 CL [cm] 1<|.bI .eql bP (.i 0)<|.ite ck (.bp (.jump 0 ([.i 0,cr]++w 16 5))) (.bI .eql bP (.i 1)<|.ite cf (.bp (.jump 0 ([.i 1,bQ,cr]++w 17 4))) (.bI .eql bP (.i 2)<|.ite cw (.j [.i 2,bQ,bU,cr,bT,cg,cp]) (.bI .eql bP (.i 3)<|.ite c9 (.j [.i 3,bQ,bU,bW,cr,cg,cp]) (.bI .eql bP (.i 4)<|.ite dX (.bp (.jump 0 ([.i 4]++w 15 4++[cr,cp]))) (.bI .eql bP (.i 5)<|.ite eh (.bp (.jump 0 ([.i 5]++w 15 5++[cr]))) (.op (.du (.i 0) 0)<|.j []))))))) (.bI .add cj (.i 1)<|.bp (.jump 0 ([dX]++w 23 6)))) (.bp (.jump 1 (w 15 6))))) (.bp (.jump 0 ([.i 0,bN,U1,U2,U3,U5]++w 14 6++[U7]))))
def Nt:=Fo als
def aph:bw:=⟨106,[cs 0,.agg [pi 1,pi 2,pi 3],cs 4],[],5,13,.bL [.c (.own 0),.agg (cI 7 4++[.p (.int .u32) bE,.p (.int .u32) bG,.p (.int .u32) bN,.p (.int .u32) bP,.p (.int .u32) bQ,.p (.int .u32) bU,.own 1]),ci 5],[(0,(.row 95 U6)),(1,(.row 164 bW))],Nt,126⟩
theorem aeq:Ok aph:=oS (.cons ajX (.cons Rs (.cons TJ (.cons aoT .nil))))
def atE:bl:=.op (.call 80 rN (w 0 14) 1 [])<|.no bQ<|.ite bU (.j [.i 1,.i 0,.i 0,.i 0,.i 0,.r0,.r0,.r0,.r0,.r0,.r0,.r0,.r0,.i 0,.i 0]) (.join (.loop [U3,.i 0] (.ln bP<|.bI .lss bT cg<|.ite cp (.rw bP bT 4<|.cl cL 0 (.int .u64)<|.cl cL 1 (.int .u32)<|.cl cL 2 .bool<|.cl cL 3 .sl<|.op (.call 43 Ds (w 22 4) 1 [])<|.no cf<|.ite cw (.bp (.jump 2 [.i 1,.i 0,.i 0,.i 0,.i 0,.r0,.r0,.r0,.r0,.r0,.r0,.r0,.r0,.i 0,.i 0])) (.rw bP bT 4<|.cl c9 3 .sl<|.ln dX<|.cA 44 kp [eh] 1<|.bI .add bW eL<|.bI .add bT (.i 1)<|.j [dP,gH])) (.bp (.jump 1 [bW])))) (.bI .neq U2 (.i 1)<|.ite bT (.j [.i 12,.i 0,.i 0,.i 0,.i 0,.r0,.r0,.r0,.r0,.r0,.r0,.r0,.r0,.i 0,.i 0]) (.bI .gtr bW (.i 1048576)<|.ite cg (.j [.i 9,.i 0,.i 0,.i 0,.i 0,.r0,.r0,.r0,.r0,.r0,.r0,.r0,.r0,.i 0,.i 0]) (.join (.loop ([.i 0]++w 3 11) (.ln bP<|.bI .lss cp dP<|.ite gH (.rw bP cp 4<|.cl gN 0 (.int .u64)<|.cl gN 1 (.int .u32)<|.cl gN 2 .bool<|.cl gN 3 .sl<|.ln iZ<|.cA 44 kp [jl] 1<|.join (.ite jD (.op (.call 112 DE (w 22 10++[iq]) 10 [])<|.op (.call 78 IN (w 41 10++[jO]) 1 [])<|.bp (.jump 0 (w 41 9++[rJ]))) (.ln iZ<|.op (.call 111 Jd (w 22 10++[iq,ik,cL,lx]) 10 [])<|.bp (.jump 0 (w 42 10)))) (.bI .add cL jO<|.bI .add cp (.i 1)<|.bp (.jump 0 ([mR,rJ]++w 41 10)))) (.bp (.jump 1 (w 21 11))))) (.bp (.jump 0 ([.i 0,U0,U1,U2]++w 20 11)))))))
def H9:=Fo atE
def amh:bw:=⟨97,[.agg (cI 0 4++dh 4 8++[pi 12,pi 13]),cs 14],[],15,15,.bL [.agg (cI 16 4++dh 20 8++[pi 28,pi 29]),ci 15],[],H9,114⟩
theorem agO:Ok amh:=oS (.cons Tb (.cons auE (.cons AJ (.cons aeI (.cons pf (.cons XX .nil))))))
def aba:bl:=.cA 104 JC [U0,U1] 4<|.cA 35 I5 [.i 0] 1<|.cA 607 CZ [U6,.i (-1),.r0,U3,U4,.b false,U5,.r0,.i 1] 3<|.j [U7,U8,U3,U4,U5,U9]
def Fw:=Fo aba
def aoN:bw:=⟨46,[ci 0,ci 1],[],2,6,.v (.agg [pi 2,pi 3,.own 0,pi 4,pi 5,.p .bool (.b false),ps 6,.mp 1]),[(0,(.row 141 U7)),(1,(.map .r0))],Fw,149⟩
theorem V0:Ok aoN:=oS (.cons XL (.cons amX (.cons ahr .nil)))
def axb:bl:=.ln U0<|.bI .neq U1 (.i 4)<|.ite U2 (.j [.i 1,.r0]) (.cA 385 FP [] 3<|.op (.lit [[((.int .i64),(.i 4))],[((.int .i64),(.i 5))]])<|.op (.call 347 vp (w 3 4) 4 [3])<|.cA 673 Ns [U8,U9,bB,U0] 2<|.j [bE,bG])
def GQ:=Fo axb
def auP:bw:=⟨82,[.c (.own 0)],[.row 95 U0],1,2,.bL [.c (.own 1),ci 1],[(1,(.row 95 U2)),(0,(.row 95 U0))],GQ,700⟩
theorem anL:Ok auP:=oS (.cons axc (.cons abT (.cons Qn .nil)))
def S3:bl:=.join (.loop [.i 0] (.ln U6<|.bI .lss U8 U9<|.ite bB (.rw U6 U8 14<|.cl bE 0 (.int .i64)<|.cl bE 1 (.int .i64)<|.cl bE 2 (.int .i64)<|.cl bE 3 (.int .i64)<|.cl bE 4 .sl<|.cl bE 5 .sl<|.cl bE 6 .sl<|.cl bE 7 .sl<|.cl bE 8 .sl<|.cl bE 9 .sl<|.cl bE 10 .sl<|.cl bE 11 .sl<|.cl bE 12 (.int .i64)<|.cl bE 13 (.int .i64)<|.bI .neq bP (.i 2)<|.ite cf (.bI .add U8 (.i 1)<|.j [cw]) (.cA 56 qL [.i 1,U3,bG] 1<|.cA 143 y8 [U0,U1,U2,cw] 2<|.cA 72 H7 [c9] 4<|.op (.call 79 qn (w 16 10) 1 [])<|.op (.call 126 Nt ([c9]++w 31 4) 13 [])<|.join (.loop [.i 0,U0,U1,U2] (.ln ik<|.bI .lss kb mR<|.ite wG (.cA 68 Cy [U3,bG,kb] 1<|.rw ik kb 1<|.op (.rc ik kb 0 .sl)<|.op (.call 614 qF ([oD,wK,rJ]++w 3 5++[zm,G6]) 3 [])<|.bI .add kb (.i 1)<|.j [yV,U57,Ix,Dj]) (.bp (.jump 1 [oD,wK,rJ])))) (.op (.call 95 LU (w 37 11) 2 [1])<|.cA 56 qL [.i 4,U3,bG] 1<|.op (.call 614 qF ([kb,oD,wK]++w 3 5++[wG,mR]) 3 [])<|.cA 129 Iw [zm,O0,G6,cw] 4<|.op (.call 101 Lm (w 12 14) 15 [])<|.op (.call 118 yG (w 3 4++w 62 14) 5 [])<|.bp (.jump 2 ([.b true,Ix,Dj,yV]++w 77 4))))) (.bp (.jump 1 [])))) (.bp (.jump 0 ([.b false]++w 0 7)))
def Ez:=Fo S3
def apy:bw:=⟨95,[.c (.ptr 0 0)],[.box [pi 0,pi 1,ps 2,pi 3,pi 4,.p .bool U5,ps 6,.mp 1],.map U7],8,8,.v (.c (.p .bool U8)),[(0,(.box [pi 9,pi 10,ps 11,pi 12,pi 13,.p .bool bP,ps 15,.mp 1])),(1,(.map U7))],Ez,617⟩
theorem axj:Ok apy:=oS (.cons aeq (.cons zN (.cons Nn (.cons afq (.cons vv (.cons adC (.cons akr (.cons apn (.cons apZ (.cons awU (.cons AP .nil)))))))))))
def awM:bl:=.op (.call 120 EL (w 3 4) 5 [])<|.bI .neq U8 (.i 0)<|.ite bN (.bp (.jump 0 ([.b false]++w 0 7))) (.ln U6<|.bI .sub bP (.i 1)<|.rw U6 bQ 14<|.cl bU 0 (.int .i64)<|.bI .add bW (.i 1)<|.op (.call 607 CZ ([U0,U1,U2]++w 9 4++[U7,bT]) 3 [])<|.cA 56 qL [.i 3,U9,bW] 1<|.op (.call 614 qF ([cg,cp,cL]++w 9 4++[U7,cj,.r0]) 3 [])<|.bp (.jump 0 ([.b true,cm,cr,ck]++w 9 4)))
def Aa:=Fo awM
def aeW:bw:=⟨50,[.c (.ptr 0 0)],[.box [pi 0,pi 1,ps 2,pi 3,pi 4,.p .bool U5,ps 6,.mp 1],.map U7],8,8,.v (.c (.p .bool U8)),[(0,(.box [pi 9,pi 10,ps 11,pi 12,pi 13,.p .bool bP,ps 15,.mp 1])),(1,(.map U7))],Aa,619⟩
theorem Rg:Ok aeW:=oS (.cons XL (.cons zN (.cons ach (.cons AP .nil))))
def aaG:bl:=.op (.call 116 EI (w 3 4) 15 [])<|.op (.call 114 H9 (w 10 14++[U8]) 15 [])<|.op (.call 118 yG (w 3 4++w 25 14) 5 [])<|.join (.bI .neq cr (.i 0)<|.ite pd (.j [.b true]) (.bI .neq jl (.i 0)<|.j [jM])) (.ite pd (.bp (.jump 0 ([.b false]++w 0 8))) (.join (.loop [.i 0,U0,U1,U2,U7] (.ln U8<|.bI .lss jM wK<|.ite rJ (.join (.rw U8 jM 4<|.cl mR 0 (.int .u64)<|.cl mR 1 (.int .u32)<|.cl mR 2 .bool<|.cl mR 3 .sl<|.op (.call 74 Jy (w 53 4) 2 [])<|.cA 56 qL [.i 1,jO,bB] 1<|.op (.call 614 qF ([w7,yH,kb]++w 40 4++[oD,Dj,Ix]) 3 [])<|.rw U8 jM 4<|.cl If 2 .bool<|.ite I0 (.rw U8 jM 4<|.cl Cl 0 (.int .u64)<|.cA 3002 UD [oD,BV] 1<|.j [yV,DF,sZ,uw]) (.rw U8 jM 4<|.cl Cl 0 (.int .u64)<|.rw U8 jM 4<|.cl sZ 0 (.int .u64)<|.cl sZ 1 (.int .u32)<|.cl sZ 2 .bool<|.cl sZ 3 .sl<|.op (.lit [[((.int .u64),BV),((.int .u64),KD),((.int .u32),QE),(.bool,yP),(.sl,OR)]])<|.cA 3001 akk [oD,KM] 1<|.j [yV,DF,KN,uw])) (.bI .add jM (.i 1)<|.j [G6,mR,wG,O0,zm])) (.bp (.jump 1 (w 46 4))))) (.bp (.jump 0 ([.b true,jM,w7,yH]++w 40 4++[kb])))))
def vK:=Fo aaG
def agm:bw:=⟨49,[.c (.ptr 0 0),cs 8],[.box [pi 0,pi 1,ps 2,pi 3,pi 4,.p .bool U5,ps 6,.mp 1],.map U7],9,9,.v (.c (.p .bool U9)),[(0,(.box [pi 10,pi 11,ps 12,pi 13,pi 14,.p .bool bQ,ps 16,.mp 1])),(1,(.map bW))],vK,610⟩
theorem IS:Ok agm:=oS (.cons agO (.cons zN (.cons Nn (.cons VM (.cons anR (.cons AP .nil))))))
end
section
open Go.RowKit
open Classical
theorem asD(ev:cF->b9)(o:Oper){b args ts}(a:o.op=.call ⟨.builtin b,args,ts⟩):execOp ev o=builtin b ts o.type (args.map λ| .const _=>true|_=>false) (args.map ev):=by
 unfold execOp;rw[a];rfl
section
variable{X:Fx}{Q:Exit->bx->Prop}{st:bx}
theorem amM{id t2 ty:Nat}{p a2}(hQ:Q .normal (st.put (some t2) (.v (.c (.p .nl))))):
 Aw X (.region id #[{dst:=some t2,op:=.assign (.const (.slice none 0 0)),type:=ty,pos:=p,after:=a2,guard:=none}] false) Q st:=λa w ht=>by
 obtain⟨E,hR,hg⟩:=ht;refine wp_region ?_;rw[show(List.range (#[({dst:=some t2,op:=.assign (.const (.slice none 0 0)),type:=ty,pos:=p,after:=a2,guard:=none}:Oper)]).size)=[0]from rfl];simp only[wpOps,Region.wanted,pT,oZ,if_true];refine .inl (iI (u:=.slice none 0 0) (w':=w) ?_ ?_)
 .simp only[execOp];rfl
 .exact⟨_,hQ,E,hR.put (some t2) (v:=.v (.c (.p .nl))) RP.nl,hg⟩
theorem alJ{id t2 t5 t6 t7 i T e:Nat}{n b p5 p6 p7 p2 a5 a6 a7 a2}(hi:st.tmps[i]?=some (.v (.c (.p (.sl [])))))(hne:i≠t5)(h56:t5≠t6)(h5:t5<st.tmps.length)(h6:t6<st.tmps.length)(h7:t7<st.tmps.length)
 (hT:fr X.P T=some e) (aBe:iR X.P e=some (n,b)) {d} (A3:X.k0<=d) (ND:st.next<=d)
 (hQ:Q .normal (((((({st with next:=d+1}:bx).dS ⟨[(d,.row e [])],[]⟩).put (some t5) (.v (.c .dead))).put (some t6) (.v (.c .dead))).put (some t7) (.v (.c .dead))).put (some t2) (.v (.c (.p .nl))))):
 Aw X (.region id #[{dst:=some t5,op:=.buildSlice T 0 #[],type:=T,pos:=p5,after:=a5,guard:=none},{dst:=some t6,op:=.move (.tmp i),type:=T,pos:=p6,after:=a6,guard:=none},
  {dst:=some t7,op:=.call {callee:=.builtin .append,args:= #[.tmp t5,.tmp t6],argTypes:= #[T,T]},type:=T,pos:=p7,after:=a7,guard:=none},
  {dst:=some t2,op:=.assign (.tmp t7),type:=T,pos:=p2,after:=a2,guard:=none}] false) Q st:=λa w ht=>by
 obtain⟨E,hR,hg⟩:=ht;obtain⟨u,h1,h2⟩:=hR.tmps i _ hi;have aBf:t5<a.tmps.size:=by rw[hR.size];exact h5
 have aBg:t6<a.tmps.size:=by rw[hR.size];exact h6
 have aBh:t7<a.tmps.size:=by rw[hR.size];exact h7
 obtain⟨hu,hie⟩:=nB hT;obtain⟨ii,z,pQ,hz,hzs,aBi,pP,hib,xP⟩:=rD aBe;refine wp_region ?_;obtain⟨A,c,rfl⟩:∃A c,u=.slice A 0 c:=by
  cases h2 with
  |nil=>exact⟨_,_,rfl⟩
  |row h0=>exact absurd rfl h0
 have NF:Rel X E {st with next:=d+1} a w:={
  defers:=hR.defers
  bu:=hR.bu
  frame:=hR.frame
  iS:=hR.iS
  eJ:=λn x hn=>by have:=hR.eJ n x hn;show n<d+1;omega
  names:=hR.names
  inj:=hR.inj
  fM:=hR.fM
  jh:=by have:=hR.jh;show _<=d+1;omega
  kz:=λn hn=>by have:=hR.kz n hn;show n<d+1;omega
  size:=hR.size
  tmps:=hR.tmps
  heap:=hR.heap}
 have hf:=NF.pK (d:=d) (by
  cases hN:E.N d with
  |none=>rfl
  |some x=>have:=hR.eJ d x hN;omega) A3 (by show d<d+1;omega) (e:=e) aBi xP.symm (rows:=[]) (λr hr=>by cases hr) (cap:=0) (de _) (eM _) (us:= #[]) (by simp) (λi r j p k1 k2=>by simp at k1) (wd:=w) (.inl rfl)
 have e1:(a.put (some t5) (.slice (some ⟨w.heap.size,0,none⟩) 0 0)).eval (.tmp i)=.slice A 0 c:=by
  have:=Ne.symm hne;simp[Act.eval,Act.put,rf,h1,this]
 rw [show(List.range (#[({dst:=some t5,op:=.buildSlice T 0 #[],type:=T,pos:=p5,after:=a5,guard:=none}:Oper),{dst:=some t6,op:=.move (.tmp i),type:=T,pos:=p6,after:=a6,guard:=none},
  {dst:=some t7,op:=.call {callee:=.builtin .append,args:= #[.tmp t5,.tmp t6],argTypes:= #[T,T]},type:=T,pos:=p7,after:=a7,guard:=none},
  {dst:=some t2,op:=.assign (.tmp t7),type:=T,pos:=p2,after:=a2,guard:=none}]).size)=[0,1,2,3]from rfl]
 simp only[wpOps,Region.wanted,pT,oZ,Bi,if_true];refine .inl (iI (u:=.slice (some ⟨w.heap.size,0,none⟩) 0 0) (w':=w.alloc (.cells #[] e)) ?_ (.inl ?_))
 .simp only[execOp];simp[Instr.buildSlice,run_underlying hu,sizeOf,typeInfo,pQ,pP,Instr.fill,newRow];congr 2;exact Ba (by simp)
 refine iI (u:=.slice A 0 c) (w':=w.alloc (.cells #[] e)) ?_ (.inl ?_)
 .simp only[execOp,e1];rfl
 refine iI (u:=.slice (some ⟨w.heap.size,0,none⟩) 0 0) (w':=w.alloc (.cells #[] e)) ?_ (.inl ?_)
 .have e2:((a.put (some t5) (.slice (some ⟨w.heap.size,0,none⟩) 0 0)).put (some t6) (.slice A 0 c)).eval (.tmp t5)=.slice (some ⟨w.heap.size,0,none⟩) 0 0:=by
   simp[Act.eval,Act.put,rf,aBf,Ne.symm h56]
  have e3:((a.put (some t5) (.slice (some ⟨w.heap.size,0,none⟩) 0 0)).put (some t6) (.slice A 0 c)).eval (.tmp t6)=.slice A 0 c:=by
   simp[Act.eval,Act.put,rf,aBg]
  have hr:(Builtin.append_ #[T,T] T #[.slice (some ⟨w.heap.size,0,none⟩) 0 0,.slice A 0 c]).run X.P (w.alloc (.cells #[] e))=.ok (.slice (some ⟨w.heap.size,0,none⟩) 0 0) (w.alloc (.cells #[] e)):=by
   cases A with
   |none=>simp[Builtin.append_,run_underlying hu,sizeOf,typeInfo,pQ,Builtin.lenOf,Builtin.firstCells,storeCells]
   |some B=>simp[Builtin.append_,run_underlying hu,sizeOf,typeInfo,pQ,Builtin.lenOf,Builtin.firstCells,loadCells,loadCellsFrom,storeCells]
  rw[asD _ _ rfl];simp only[List.map_toArray,dk,gJ,e2,e3];simp[builtin,hr]
 refine iI (u:=.slice (some ⟨w.heap.size,0,none⟩) 0 0) (w':=w.alloc (.cells #[] e)) ?_ ?_
 .have e4:(((a.put (some t5) (.slice (some ⟨w.heap.size,0,none⟩) 0 0)).put (some t6) (.slice A 0 c)).put (some t7) (.slice (some ⟨w.heap.size,0,none⟩) 0 0)).eval (.tmp t7)=.slice (some ⟨w.heap.size,0,none⟩) 0 0:=by
   simp[Act.eval,Act.put,rf,aBh]
  simp only[execOp,e4];rfl
 .exact⟨_,hQ,_,(((hf.1.put (some t5) (v:=.v (.c .dead)) trivial).put (some t6) (v:=.v (.c .dead)) trivial).put (some t7) (v:=.v (.c .dead)) trivial).put (some t2) (v:=.v (.c (.p .nl))) RP.nl,by simpa[bx.put,bx.dS]using hg⟩
end
theorem ams:eC Tryz.prog 122 [.c (.p (.sl []))] [] (.v (.c (.p .nl))) []:=by
 refine eC.intro Tryz.func122 kr rfl rfl rfl λX a c=>mr ?_
 refine ei ?_;refine kg (Sp:=λ_=>none) rfl rfl ?_;refine ei ?_;refine ei ?_;refine rL (rows:=[]) (e:=147) rfl (by show 3<8;decide) (by rw[a];exact Tryz.underlying142) ?_;intro b g;refine nC (t:=b) rfl (λh=>?_) (λh=>?_)
 .subst h;exact ei (amM (nZ ⟨_,λ_ _ h=>h,trivial,rfl,λn b h=>by cases h⟩))
 .subst h;refine qa ?_;have f:X.k0=0:=c;refine ei (alJ (T:=142) (e:=147) (n:=3) (b:=40) (d:=100000) rfl dc dc (by show 5<8;decide) (by show 6<8;decide) (by show 7<8;decide) (by rw[a];kernel_rfl) (by rw[a];kernel_rfl) om (by show _<=100000;decide) (nZ ⟨_,λ_ _ h=>h,trivial,rfl,λn b h=>by cases h⟩))
def zP:List L->Option (List L):=λls=>match ls with
 |[.r []]=>some []
 |_=>none
def alR:bw:=⟨122,[.c (.p .sl U0)],[],1,0,.v (.c (.p .nl (.i 0))),[],zP,2078⟩
theorem aaL:alR.ok Tryz.prog:=by
 intro ls os c a b;have a:zP ls=some os:=a;unfold zP at a;split at a
 .cases a;exact ams
 .cases a
end
section
attribute [local irreducible] Fo
open Go.RowKit
def Rn:bl:=.op (.call 117 MQ (w 3 4++[U8]) 1 [])<|.join (.loop ([.i 0]++w 0 7) (.ln U9<|.bI .lss bB bT<|.ite cg (.join (.loop ([.i 0]++w 14 4) (.ln cr<|.bI .lss cp ck<|.ite cf (.join (.rw cr cp 14<|.cl cw 0 (.int .i64)<|.rw U9 bB 1<|.op (.rc U9 bB 0 (.int .i64))<|.bI .eql c9 eh<|.ite eL (.rw cr cp 14<|.cl dP 0 (.int .i64)<|.cl dP 1 (.int .i64)<|.cl dP 2 (.int .i64)<|.cl dP 3 (.int .i64)<|.cl dP 4 .sl<|.cl dP 5 .sl<|.cl dP 6 .sl<|.cl dP 7 .sl<|.cl dP 8 .sl<|.cl dP 9 .sl<|.cl dP 10 .sl<|.cl dP 11 .sl<|.cl dP 12 (.int .i64)<|.cl dP 13 (.int .i64)<|.op (.lit [[((.int .u64),U8)]])<|.op (.call 113 Lq (w 33 15) 15 [])<|.op (.call 118 yG (w 21 4++w 49 14) 5 [])<|.bp (.jump 0 (w 64 4))) (.bp (.jump 0 (w 21 4)))) (.bI .add cp (.i 1)<|.bp (.jump 0 ([eL]++w 27 4)))) (.bp (.jump 1 (w 21 4))))) (.rw U9 bB 1<|.op (.rc U9 bB 0 (.int .i64))<|.cA 56 qL [.i 3,cp,ck] 1<|.op (.lit [[((.int .u64),U8)]])<|.op (.call 69 Hd [cw] 1 [0])<|.op (.call 614 qF ([bE,bG,bN]++w 20 4++[U7,cf,c9]) 3 [])<|.bI .add bB (.i 1)<|.bp (.jump 0 ([dP,dX,eh,eL]++w 20 4)))) (.bp (.jump 1 (w 11 7))))) (.op (.call 116 EI (w 13 4) 15 [])<|.join (.op (.call 99 tN (w 22 10++[U8]) 5 [])<|.ite dP (.op (.lit [[((.int .u64),U8),((.int .u32),gN),(.bool,(.b true)),(.sl,.r0)]])<|.op (.call 610 vK (w 10 7++[U7,jD]) 9 [])<|.bp (.jump 0 (w 39 8))) (.bp (.jump 0 (w 10 7++[U7])))) (.cA 3002 UD [jl,U8] 1<|.bp (.jump 0 ([jO]++w 32 7))))
def AQ:=Fo Rn
def atO:bw:=⟨66,[.c (.ptr 0 0),.c (.p (.int .u64) U8)],[.box [pi 0,pi 1,ps 2,pi 3,pi 4,.p .bool U5,ps 6,.mp 1],.map U7],9,8,.bL [],[(1,(.map U9)),(0,(.box [pi 10,pi 11,ps 12,pi 13,pi 14,.p .bool bQ,ps 16,.mp 1]))],AQ,611⟩
theorem Qw:Ok atO:=oS (.cons IS (.cons zN (.cons ajN (.cons abA (.cons Nn (.cons VM (.cons Cb (.cons afJ (.cons AP .nil)))))))))
def aaD:bl:=.cA 5 F5 [U3] 1<|.bI .add U2 bQ<|.bI .gtr bU U7<|.j [bW]
def KO:=Fo aaD
def ale:bw:=⟨160,[.agg [.p (.int .u64) U0,.p (.int .u32) U1,pi 2,pi 3],.c (.ptr 0 0)],[.box (cI 4 4++[.p (.int .u32) U8,.p (.int .u32) U9,.p (.int .u32) bB,.p (.int .u32) bE,.p (.int .u32) bG,.p (.int .u32) bN,ps 14])],15,1,.v (.c (.p .bool bQ)),[(0,(.box (cI 4 4++[.p (.int .u32) U8,.p (.int .u32) U9,.p (.int .u32) bB,.p (.int .u32) bE,.p (.int .u32) bG,.p (.int .u32) bN,ps 14])))],KO,397⟩
theorem axa:Ok ale:=oS (.cons D2 .nil)
def WZ:bl:=.cA 2011 pj [U1] 0<|.cA 2078 zP [U2] 0<|.join (.loop [] (.bp (.jump 1 []))) (.j [])
def J3:=Fo WZ
def Z9:bw:=⟨166,[.agg [.p .str U0,ps 1,ps 2]],[],3,0,.v (.agg [.p .str U0,.own 0,.p .nl (.i 0)]),[(0,(.row 5 U1))],J3,704⟩
theorem axV:Z9.ok Tryz.prog:=g_ WZ zY (.cons uM (.cons aaL .nil)) Tryz.func166 kr kr rfl
def Sj:bl:=.cA 2070 Fe [U2] 0<|.join (.ln U2<|.loop [.i 0,U2] (.bI .lss U4 U3<|.ite U6 (.rw U5 U4 3<|.op (.rc U5 U4 0 .str)<|.op (.rc U5 U4 1 .gr)<|.op (.rc U5 U4 2 .gr)<|.cA 704 J3 [U8,U9,bB] 0<|.rw U5 U4 3<|.op (.set U5 U4 0 [(.str,U8),(.sl,U9),(.nl,(.i 0))])<|.bI .add U4 (.i 1)<|.j [bN,bG]) (.bp (.jump 1 [U5])))) (.j [U3])
def Kf:=Fo Sj
def alP:bw:=⟨85,[.agg [pi 0,pi 1,ps 2]],[],3,1,.v (.agg [pi 0,pi 1,.own 0]),[(0,(.row 144 U3))],Kf,706⟩
theorem ana:alP.ok Tryz.prog:=g_ Sj zY (.cons axV (.cons Kt .nil)) Tryz.func85 kr kr rfl
def Yn:bl:=.join (.ln U0<|.loop [.i 0] (.bI .lss bN bG<|.ite bP (.rw U0 bN 4<|.cl bQ 0 (.int .u64)<|.cl bQ 1 (.int .u32)<|.cl bQ 2 (.int .i64)<|.cl bQ 3 (.int .i64)<|.op (.call 397 KO (w 16 4++w 1 11) 1 [])<|.ite cp (.bp (.jump 2 [bN])) (.bI .add bN (.i 1)<|.j [cL])) (.bp (.jump 1 [])))) (.j [.i (-1)])
def Hk:=Fo Yn
def akX:bw:=⟨227,[cs 0,.c (.fn 160 [0])],[.box (cI 1 4++[.p (.int .u32) U5,.p (.int .u32) U6,.p (.int .u32) U7,.p (.int .u32) U8,.p (.int .u32) U9,.p (.int .u32) bB,ps 11])],12,1,.v (ci 12),[(0,(.box (cI 1 4++[.p (.int .u32) U5,.p (.int .u32) U6,.p (.int .u32) U7,.p (.int .u32) U8,.p (.int .u32) U9,.p (.int .u32) bB,ps 11])))],Hk,398⟩
theorem ant:Ok akX:=oS (.cons axa .nil)
def acO:bl:=.op (.call 398 Hk (w 0 12) 1 [])<|.bI .geq bG (.i 0)<|.j [bN]
def Il:=Fo acO
def akQ:bw:=⟨159,[cs 0,.c (.fn 160 [0])],[.box (cI 1 4++[.p (.int .u32) U5,.p (.int .u32) U6,.p (.int .u32) U7,.p (.int .u32) U8,.p (.int .u32) U9,.p (.int .u32) bB,ps 11])],12,1,.v (.c (.p .bool bG)),[(0,(.box (cI 1 4++[.p (.int .u32) U5,.p (.int .u32) U6,.p (.int .u32) U7,.p (.int .u32) U8,.p (.int .u32) U9,.p (.int .u32) bB,ps 11])))],Il,401⟩
theorem akK:Ok akQ:=oS (.cons ant (.cons Rr .nil))
end
end
end Go.Proofs.YtiikkkhcolcebaaGreatDoor
