/- A part. -/
import Derived.Test.YtiikkkhcolcebaaGreatDoorG6
import Derived.Shelf.Lay
import Derived.Shelf.Strings.OnBuilder
import Derived.Shelf.Strings.SlTrimAscii
import Derived.Shelf.Strconv.Itoa3
import Derived.Test.YtiikkkhcolcebaaGreatDoorProg
set_option linter.all false
set_option maxHeartbeats 4000000
set_option maxRecDepth 100000
namespace Go.Proofs.YtiikkkhcolcebaaGreatDoor
noncomputable section
section
open Go.Shelf
def Tryz.aad:Go.Shelf.Ren:=⟨λ|156=>140|165=>215|166=>216|169=>217|240=>276|241=>277|276=>319|277=>320|n=>n,λ|31=>257|9=>9|3=>3|4=>4|0=>0|20=>20|72=>324|76=>327|70=>322|37=>95|75=>326|127=>376|164=>424|5=>5|80=>256|n=>n,λ|n=>n⟩
def Tryz.WT:Go.Proofs.Lays.n156 Tryz.prog Tryz.aad:={
 mixed:=kr
 f156:=Tryz.func140.trans (cW some kr)
 f165:=Tryz.func215.trans (cW some kr)
 f166:=Tryz.func216.trans (cW some kr)
 f169:=Tryz.func217.trans (cW some kr)
 f240:=Tryz.func276.trans (cW some kr)
 f241:=Tryz.func277.trans (cW some kr)
 f276:=Tryz.func319.trans (cW some kr)
 f277:=Tryz.func320.trans (cW some kr)
 t0:=Tryz.underlying0
 a0:=Tryz.isAgg0
 z0:=Tryz.sizeOf0
 v0:=Tryz.zeroValue0
 t3:=Tryz.underlying3
 a3:=Tryz.isAgg3
 z3:=Tryz.sizeOf3
 v3:=Tryz.zeroValue3
 t4:=Tryz.underlying4
 a4:=Tryz.isAgg4
 z4:=Tryz.sizeOf4
 v4:=Tryz.zeroValue4
 t9:=Tryz.underlying9
 a9:=Tryz.isAgg9
 z9:=Tryz.sizeOf9
 v9:=Tryz.zeroValue9
 t20:=Tryz.underlying20
 a20:=Tryz.isAgg20
 z20:=Tryz.sizeOf20
 v20:=Tryz.zeroValue20
 t31:=Tryz.underlying257
 a31:=Tryz.isAgg257
 z31:=Tryz.sizeOf257
 v31:=Tryz.zeroValue257
 t37:=Tryz.underlying95
 a37:=Tryz.isAgg95
 z37:=Tryz.sizeOf95
 v37:=Tryz.zeroValue95
 t70:=Tryz.underlying322
 a70:=Tryz.isAgg322
 z70:=Tryz.sizeOf322
 v70:=Tryz.zeroValue322
 t72:=Tryz.underlying324
 a72:=Tryz.isAgg324
 z72:=Tryz.sizeOf324
 v72:=Tryz.zeroValue324
 t75:=Tryz.underlying326
 a75:=Tryz.isAgg326
 z75:=Tryz.sizeOf326
 v75:=Tryz.zeroValue326
 t76:=Tryz.underlying327
 a76:=Tryz.isAgg327
 z76:=Tryz.sizeOf327
 v76:=Tryz.zeroValue327
 t127:=Tryz.underlying376
 a127:=Tryz.isAgg376
 z127:=Tryz.sizeOf376
 v127:=Tryz.zeroValue376
 t164:=Tryz.underlying424
 a164:=Tryz.isAgg424
 z164:=Tryz.sizeOf424
 v164:=Tryz.zeroValue424}
def Tryz.UU:Builder.Extra Tryz.prog Tryz.aad:={
 sizeBuilder:=kr
 liesBuilder:=kr
 t5:=Tryz.underlying5
 a5:=Tryz.isAgg5
 z5:=Tryz.sizeOf5
 v5:=Tryz.zeroValue5
 infoByte:=kr
 cellsByte:=kr
 sizeByte:=kr
 neB5:=by decide}
def Tryz.alk:Go.Shelf.Ren:=⟨λ|160=>236|232=>294|231=>293|227=>295|234=>297|233=>296|236=>299|235=>298|228=>328|271=>331|151=>330|197=>329|120=>368|152=>367|260=>366|137=>388|119=>389|224=>390|225=>391|217=>394|266=>396|n=>n,λ|9=>9|4=>4|3=>3|5=>5|117=>402|116=>401|0=>0|124=>405|21=>21|105=>434|46=>269|119=>487|139=>490|138=>489|n=>n,λ|3=>2|4=>3|n=>n⟩
def Tryz.arV:Go.Proofs.Lays.n160 Tryz.prog Tryz.alk:={
 mixed:=kr
 f119:=Tryz.func389.trans (cW some kr)
 f120:=Tryz.func368.trans (cW some kr)
 f137:=Tryz.func388.trans (cW some kr)
 f151:=Tryz.func330.trans (cW some kr)
 f152:=Tryz.func367.trans (cW some kr)
 f160:=Tryz.func236.trans (cW some kr)
 f197:=Tryz.func329.trans (cW some kr)
 f217:=Tryz.func394.trans (cW some kr)
 f224:=Tryz.func390.trans (cW some kr)
 f225:=Tryz.func391.trans (cW some kr)
 f227:=Tryz.func295.trans (cW some kr)
 f228:=Tryz.func328.trans (cW some kr)
 f231:=Tryz.func293.trans (cW some kr)
 f232:=Tryz.func294.trans (cW some kr)
 f233:=Tryz.func296.trans (cW some kr)
 f234:=Tryz.func297.trans (cW some kr)
 f235:=Tryz.func298.trans (cW some kr)
 f236:=Tryz.func299.trans (cW some kr)
 f260:=Tryz.func366.trans (cW some kr)
 f266:=Tryz.func396.trans (cW some kr)
 f271:=Tryz.func331.trans (cW some kr)
 t0:=Tryz.underlying0
 a0:=Tryz.isAgg0
 z0:=Tryz.sizeOf0
 v0:=Tryz.zeroValue0
 t3:=Tryz.underlying3
 a3:=Tryz.isAgg3
 z3:=Tryz.sizeOf3
 v3:=Tryz.zeroValue3
 t4:=Tryz.underlying4
 a4:=Tryz.isAgg4
 z4:=Tryz.sizeOf4
 v4:=Tryz.zeroValue4
 t5:=Tryz.underlying5
 a5:=Tryz.isAgg5
 z5:=Tryz.sizeOf5
 v5:=Tryz.zeroValue5
 t9:=Tryz.underlying9
 a9:=Tryz.isAgg9
 z9:=Tryz.sizeOf9
 v9:=Tryz.zeroValue9
 t21:=Tryz.underlying21
 a21:=Tryz.isAgg21
 z21:=Tryz.sizeOf21
 v21:=Tryz.zeroValue21
 t46:=Tryz.underlying269
 a46:=Tryz.isAgg269
 z46:=Tryz.sizeOf269
 v46:=Tryz.zeroValue269
 t105:=Tryz.underlying434
 a105:=Tryz.isAgg434
 z105:=Tryz.sizeOf434
 v105:=Tryz.zeroValue434
 t116:=Tryz.underlying401
 a116:=Tryz.isAgg401
 z116:=Tryz.sizeOf401
 t117:=Tryz.underlying402
 a117:=Tryz.isAgg402
 z117:=Tryz.sizeOf402
 v117:=Tryz.zeroValue402
 t119:=Tryz.underlying487
 a119:=Tryz.isAgg487
 z119:=Tryz.sizeOf487
 t124:=Tryz.underlying405
 a124:=Tryz.isAgg405
 z124:=Tryz.sizeOf405
 v124:=Tryz.zeroValue405
 t138:=Tryz.underlying489
 a138:=Tryz.isAgg489
 z138:=Tryz.sizeOf489
 v138:=Tryz.zeroValue489
 t139:=Tryz.underlying490
 a139:=Tryz.isAgg490
 z139:=Tryz.sizeOf490
 v139:=Tryz.zeroValue490
 g3:=kr
 g4:=by kernel_rfl}
def Tryz.aCy:Go.Shelf.Ren:=⟨λ|171=>141|243=>218|246=>278|283=>321|284=>322|285=>323|286=>324|129=>347|317=>359|318=>360|319=>361|320=>362|337=>383|338=>384|n=>n,λ|3=>3|9=>9|2=>2|4=>4|171=>426|0=>0|53=>85|37=>95|5=>5|173=>428|212=>462|51=>24|20=>20|213=>463|46=>269|232=>496|233=>497|n=>n,λ|17=>1|18=>4|19=>5|n=>n⟩
def Tryz.aBj:Go.Proofs.Lays.n171 Tryz.prog Tryz.aCy:={
 mixed:=kr
 f129:=Tryz.func347.trans (cW some kr)
 f171:=Tryz.func141.trans (cW some kr)
 f243:=Tryz.func218.trans (cW some kr)
 f246:=Tryz.func278.trans (cW some kr)
 f283:=Tryz.func321.trans (cW some kr)
 f284:=Tryz.func322.trans (cW some kr)
 f285:=Tryz.func323.trans (cW some kr)
 f286:=Tryz.func324.trans (cW some kr)
 f317:=Tryz.func359.trans (cW some kr)
 f318:=Tryz.func360.trans (cW some kr)
 f319:=Tryz.func361.trans (cW some kr)
 f320:=Tryz.func362.trans (cW some kr)
 f337:=Tryz.func383.trans (cW some kr)
 f338:=Tryz.func384.trans (cW some kr)
 t0:=Tryz.underlying0
 a0:=Tryz.isAgg0
 z0:=Tryz.sizeOf0
 v0:=Tryz.zeroValue0
 t2:=Tryz.underlying2
 a2:=Tryz.isAgg2
 z2:=Tryz.sizeOf2
 v2:=Tryz.zeroValue2
 t3:=Tryz.underlying3
 a3:=Tryz.isAgg3
 z3:=Tryz.sizeOf3
 v3:=Tryz.zeroValue3
 t4:=Tryz.underlying4
 a4:=Tryz.isAgg4
 z4:=Tryz.sizeOf4
 v4:=Tryz.zeroValue4
 t5:=Tryz.underlying5
 a5:=Tryz.isAgg5
 z5:=Tryz.sizeOf5
 v5:=Tryz.zeroValue5
 t9:=Tryz.underlying9
 a9:=Tryz.isAgg9
 z9:=Tryz.sizeOf9
 v9:=Tryz.zeroValue9
 t20:=Tryz.underlying20
 a20:=Tryz.isAgg20
 z20:=Tryz.sizeOf20
 v20:=Tryz.zeroValue20
 t37:=Tryz.underlying95
 a37:=Tryz.isAgg95
 z37:=Tryz.sizeOf95
 v37:=Tryz.zeroValue95
 t46:=Tryz.underlying269
 a46:=Tryz.isAgg269
 z46:=Tryz.sizeOf269
 v46:=Tryz.zeroValue269
 t51:=Tryz.underlying24
 a51:=Tryz.isAgg24
 z51:=Tryz.sizeOf24
 v51:=Tryz.zeroValue24
 t53:=Tryz.underlying85
 a53:=Tryz.isAgg85
 z53:=Tryz.sizeOf85
 v53:=Tryz.zeroValue85
 t171:=Tryz.underlying426
 a171:=Tryz.isAgg426
 z171:=Tryz.sizeOf426
 v171:=Tryz.zeroValue426
 t173:=Tryz.underlying428
 a173:=Tryz.isAgg428
 z173:=Tryz.sizeOf428
 v173:=Tryz.zeroValue428
 t212:=Tryz.underlying462
 a212:=Tryz.isAgg462
 z212:=Tryz.sizeOf462
 v212:=Tryz.zeroValue462
 t213:=Tryz.underlying463
 a213:=Tryz.isAgg463
 z213:=Tryz.sizeOf463
 t232:=Tryz.underlying496
 a232:=Tryz.isAgg496
 z232:=Tryz.sizeOf496
 v232:=Tryz.zeroValue496
 t233:=Tryz.underlying497
 a233:=Tryz.isAgg497
 z233:=Tryz.sizeOf497
 v233:=Tryz.zeroValue497
 g17:=kr
 g18:=kr
 g19:=by kernel_rfl}
open Go.RowKit
def eX.MW{P:cJ}{f:FuncId}{args:List V1}{r:V}(k:Own P f)
 (h:∀(w:bW)(M:gE)(vals:Array b8),vals.size=args.length->(∀(i:Nat)(x:V1),args[i]?=some x->∃u,vals[i]?=some u/\e7 M ⟨λ_=>none,[]⟩ w x u)->
  Calls P f vals w λe w'=>∃v,e=.returned v/\Below w.heap.size w w'/\RV M ⟨λ_=>none,[]⟩ w' r v):eX P f args [] r []:={
 own:=k
 call:=λw M N vals G a q t H d z=>by
  have B:N=λ_=>none:=by
   funext n
   cases D:N n with
   |none=>rfl
   |some x=>exact absurd (a n x D) ch
  subst B;refine(h w M vals d z).mono ?_;rintro e w' ⟨v,rfl,E,F⟩;exact⟨v,⟨λ_=>none,[]⟩,rfl,Frame.B9 E,{bx:=rfl,names:=λn x g h=>(by cases h),inj:=λn m x y g h=>(by cases h),gl:=λm I=>.inl rfl},λn b h=>(by cases h),F⟩}
def axW{w:bW}{a:Addr}{v:b8}(h:w.cell? a=some v):a.block<w.heap.size:=by
 unfold World.cell? at h;split at h
 .rename_i b;exact(kq.1 b).1
 .cases h
def JC{f:FuncId}{fn:Func}(h:Tryz.prog.funcs[f]?=some fn) (hn:(fn.name== "runtime.NumGoroutine")=false) (hb:fn.body.isNone=false):Own Tryz.prog f:=⟨fn,h,hn,hb⟩
def ahw(c:gh):Bool:=c.data.toList.all λb=>decide (b.toNat<128)
def Fm:List L->Option (List L):=λls=>match ls with
 |[.s s,.s c]=>if s.size<=9223372036854775807/\c.size<4294967281/\ahw c=true then some [.s ⟨(Lib.trimS s.data.toList c.data.toList).toArray⟩]else none
 |_=>none
def akD:bw:=⟨236,[.c (.p .str (.v 0)),.c (.p .str (.v 1))],[],2,1,.v (.c (.p .str (.v 2))),[],Fm,2020⟩
def LK{M:gE}{w:bW}{E:Env}{s:gh}{u:b8}(h:e7 M E w (.c (.p (.sc (.string s)))) u):u=.string s:=RP.eM h
def azE:akD.ok Tryz.prog:=by
 intro ls os hl hF wJ;change Fm ls=some os at hF;unfold Fm at hF;split at hF
 .rename_i s c;split at hF
  .rename_i hc;cases hF;refine eX.MW (JC Tryz.func236 kr rfl) λw M vals hsz hv=>?_
   obtain⟨u0,e0,r0⟩:=hv 0 _ rfl;obtain⟨u1,e1,r1⟩:=hv 1 _ rfl;have r0:u0=.string s:=LK r0;have r1:u1=.string c:=LK r1;subst r0 r1;obtain rfl:vals= #[.string s,.string c]:=by
    obtain⟨l⟩:=vals
    match l,hsz with
    |[a,b],_=>
     have e0:a=.string s:=by simpa using e0
     have e1:b=.string c:=by simpa using e1
     rw[e0,e1]
   refine(Any.strings_Trim_laid Tryz.arV kr s c w hc.1 hc.2.1 (ascii_of_all hc.2.2)).mono ?_;rintro e w' ⟨rfl,hb⟩;exact⟨_,rfl,hb,RP.sc rfl⟩
  .cases hF
 .cases hF
def pk:List L->Option (List L):=λls=>match ls with
 |[.i n]=>if 0<=n/\n<100 then some [.s ⟨(Lib.decDigits n.toNat).toArray⟩]else none
 |_=>none
def aCz:bw:=⟨141,[.c (.p (.int .i64) (.v 0))],[],1,1,.v (.c (.p .str (.v 1))),[],pk,2021⟩
def ZK:aCz.ok Tryz.prog:=by
 intro ls os hl hF wJ;change pk ls=some os at hF;unfold pk at hF;split at hF
 .rename_i n;split at hF
  .rename_i hc;cases hF;obtain⟨k,rfl⟩:=Int.eq_ofNat_of_zero_le hc.1;refine eX.MW (JC Tryz.func141 kr rfl) λw M vals hsz hv=>?_
   obtain⟨u0,e0,r0⟩:=hv 0 _ rfl;have r0:u0=.int .i64 k:=RP.eM r0;subst r0;obtain rfl:vals= #[.int .i64 k]:=by
    obtain⟨l⟩:=vals
    match l,hsz with
    |[a],_=>
     have e0:a=.int .i64 k:=by simpa using e0
     rw[e0]
   refine(Any.strconv_Itoa_small Tryz.aBj k om w).mono ?_;rintro e w' ⟨rfl,rfl⟩;exact⟨_,rfl,Below.refl _ _,RP.sc rfl⟩
  .cases hF
 .cases hF
def EF:List (List PV)->Option (List gh)
 |[]=>some []
 |[.sc (.string x)]::r=>(EF r).map (x:: ·)
 |_=>none
def X4:∀{rows:List (List PV)}{xs:List gh},EF rows=some xs->rows=xs.map λx=>[.sc (.string x)]
 |[],_,h=>by cases h;rfl
 |[.sc (.string x)]::r,xs,h=>by
  simp only[EF,b9]at h;obtain⟨ys,a,rfl⟩:=h;rw[dE,<-X4 a]
def uQ:List L->Option (List L):=λls=>match ls with
 |[.r rows,.s a]=>match EF rows with
  |some xs=>if xs.length<=140737488355328/\(Lib.join (xs.map (·.data.toList)) a.data.toList).length<=140737488355328 then some [.s ⟨(Lib.join (xs.map (·.data.toList)) a.data.toList).toArray⟩]else none
  |none=>none
 |_=>none
def auI:bw:=⟨140,[.c (.p .sl (.v 0)),.c (.p .str (.v 1))],[],2,1,.v (.c (.p .str (.v 2))),[],uQ,2022⟩
def asj:auI.ok Tryz.prog:=by
 intro ls os hl hF wJ;change uQ ls=some os at hF;unfold uQ at hF;split at hF
 .rename_i rows sep;split at hF
  .rename_i xs zk;split at hF
   .rename_i hc;cases hF;have zl:=X4 zk;refine eX.MW (JC Tryz.func140 kr rfl) λw M vals hsz hv=>?_
    obtain⟨u0,e0,r0⟩:=hv 0 _ rfl;obtain⟨u1,e1,r1⟩:=hv 1 _ rfl;have r0:RP (bad M _) w (.sl rows) u0:=r0;have r1:u1=.string sep:=LK r1;subst r1;obtain rfl:vals= #[u0,.string sep]:=by
     obtain⟨l⟩:=vals
     match l,hsz with
     |[a,b],_=>
      have e0:a=u0:=by simpa using e0
      have e1:b=.string sep:=by simpa using e1
      rw[e0,e1]
    by_cases hx:xs=[]
    .subst hx;obtain rfl:rows=[]:=zl
     cases r0 with
     |nil=>
      refine(Any.strings_Join_none Tryz.WT Tryz.UU _ _ sep w).mono ?_;rintro e w' ⟨rfl,rfl⟩;exact⟨_,rfl,Below.refl _ _,RP.sc rfl⟩
     |row h0=>exact absurd rfl h0
    .cases r0 with
     |nil=>simp at zl;exact absurd zl.symm (by intro h;exact hx (by simpa using h))
     |@row _ g o cap sz f h0 hl2 hm hs hcc hpp=>
      have aEg:sz=1:=by
       obtain⟨y,ys,rfl⟩:=Ql hx;have:=hs [.sc (.string y)] (by rw[zl];simp);simpa using this.symm
      subst aEg;have hlen:rows.length=xs.length:=by rw[zl];simp
      have abf:∀(j:Nat)x,xs[j]?=some x->w.cell? ⟨g,o+j,none⟩=some (.string x):=λj x hj=>by
       have h1:rows[j]?=some [.sc (.string x)]:=by rw[zl,cY,hj];rfl
       have h2:=hcc j _ 0 (.sc (.string x)) h1 rfl;have h3:=RP.eM (hpp j _ 0 (.sc (.string x)) h1 rfl);rw[h3]at h2;simpa using h2.1
      have mh:g<w.heap.size:=by
       obtain⟨y,ys,rfl⟩:=Ql hx;have:=abf 0 y rfl;exact axW this
      rw[hlen];refine(Any.strings_Join Tryz.WT Tryz.UU g o cap xs sep w abf mh hc.1 om hc.2).mono ?_;rintro e w' ⟨rfl,hb⟩;exact⟨_,rfl,hb,RP.sc rfl⟩
   .cases hF
  .cases hF
 .cases hF
end
end
end Go.Proofs.YtiikkkhcolcebaaGreatDoor
