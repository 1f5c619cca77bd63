/- A part of the proof. -/
import Derived.Test.YtndegphojkiblaaGreatDoorG14
import Derived.Shelf.Lay
import Derived.Shelf.Strings.OnBuilder
import Derived.Shelf.Strings.SlTrimAscii
import Derived.Shelf.Strconv.Itoa3
import Derived.Test.YtndegphojkiblaaGreatDoorProg
set_option linter.all false
set_option maxHeartbeats 4000000
set_option maxRecDepth 100000
namespace Go.Proofs.YtndegphojkiblaaGreatDoor
noncomputable section
section
open Go.Shelf
def Tryz.Zm:Go.Shelf.Ren:=⟨fun|156=>102|165=>158|166=>159|169=>160|240=>209|241=>210|276=>234|277=>235|n=>n,fun|31=>84|9=>9|3=>3|4=>4|0=>0|20=>20|72=>266|76=>269|70=>264|37=>71|75=>268|127=>307|164=>340|5=>5|80=>215|n=>n,fun|n=>n⟩
theorem Tryz.VO:Go.Proofs.Lays.n156 Tryz.prog Tryz.Zm:={
 mixed:=kr
 f156:=Tryz.func102.trans (bJ some kr)
 f165:=Tryz.func158.trans (bJ some kr)
 f166:=Tryz.func159.trans (bJ some kr)
 f169:=Tryz.func160.trans (bJ some kr)
 f240:=Tryz.func209.trans (bJ some kr)
 f241:=Tryz.func210.trans (bJ some kr)
 f276:=Tryz.func234.trans (bJ some kr)
 f277:=Tryz.func235.trans (bJ some kr)
 t0:=Tryz.underlying0
 a0:=Tryz.isAgg0
 z0:=Tryz.sizeOf0
 v0:=Tryz.zeroValue0
 t3:=Tryz.underlying3
 a3:=Tryz.isAgg3
 z3:=Tryz.sizeOf3
 v3:=Tryz.zeroValue3
 t4:=Tryz.underlying4
 a4:=Tryz.isAgg4
 z4:=Tryz.sizeOf4
 v4:=Tryz.zeroValue4
 t9:=Tryz.underlying9
 a9:=Tryz.isAgg9
 z9:=Tryz.sizeOf9
 v9:=Tryz.zeroValue9
 t20:=Tryz.underlying20
 a20:=Tryz.isAgg20
 z20:=Tryz.sizeOf20
 v20:=Tryz.zeroValue20
 t31:=Tryz.underlying84
 a31:=Tryz.isAgg84
 z31:=Tryz.sizeOf84
 v31:=Tryz.zeroValue84
 t37:=Tryz.underlying71
 a37:=Tryz.isAgg71
 z37:=Tryz.sizeOf71
 v37:=Tryz.zeroValue71
 t70:=Tryz.underlying264
 a70:=Tryz.isAgg264
 z70:=Tryz.sizeOf264
 v70:=Tryz.zeroValue264
 t72:=Tryz.underlying266
 a72:=Tryz.isAgg266
 z72:=Tryz.sizeOf266
 v72:=Tryz.zeroValue266
 t75:=Tryz.underlying268
 a75:=Tryz.isAgg268
 z75:=Tryz.sizeOf268
 v75:=Tryz.zeroValue268
 t76:=Tryz.underlying269
 a76:=Tryz.isAgg269
 z76:=Tryz.sizeOf269
 v76:=Tryz.zeroValue269
 t127:=Tryz.underlying307
 a127:=Tryz.isAgg307
 z127:=Tryz.sizeOf307
 v127:=Tryz.zeroValue307
 t164:=Tryz.underlying340
 a164:=Tryz.isAgg340
 z164:=Tryz.sizeOf340
 v164:=Tryz.zeroValue340}
theorem Tryz.T5:Builder.Extra Tryz.prog Tryz.Zm:={
 sizeBuilder:=kr
 liesBuilder:=kr
 t5:=Tryz.underlying5
 a5:=Tryz.isAgg5
 z5:=Tryz.sizeOf5
 v5:=Tryz.zeroValue5
 infoByte:=kr
 cellsByte:=kr
 sizeByte:=kr
 neB5:=by decide}
def Tryz.ajD:Go.Shelf.Ren:=⟨fun|160=>231|232=>268|231=>267|227=>269|234=>271|233=>270|236=>273|235=>272|228=>297|271=>300|151=>299|197=>298|120=>313|152=>312|260=>311|137=>328|119=>329|224=>330|225=>331|217=>335|266=>337|n=>n,fun|9=>9|4=>4|3=>3|5=>5|117=>373|116=>372|0=>0|124=>376|21=>21|105=>405|46=>135|119=>429|139=>432|138=>431|n=>n,fun|3=>4|4=>5|n=>n⟩
theorem Tryz.aqa:Go.Proofs.Lays.n160 Tryz.prog Tryz.ajD:={
 mixed:=kr
 f119:=Tryz.func329.trans (bJ some kr)
 f120:=Tryz.func313.trans (bJ some kr)
 f137:=Tryz.func328.trans (bJ some kr)
 f151:=Tryz.func299.trans (bJ some kr)
 f152:=Tryz.func312.trans (bJ some kr)
 f160:=Tryz.func231.trans (bJ some kr)
 f197:=Tryz.func298.trans (bJ some kr)
 f217:=Tryz.func335.trans (bJ some kr)
 f224:=Tryz.func330.trans (bJ some kr)
 f225:=Tryz.func331.trans (bJ some kr)
 f227:=Tryz.func269.trans (bJ some kr)
 f228:=Tryz.func297.trans (bJ some kr)
 f231:=Tryz.func267.trans (bJ some kr)
 f232:=Tryz.func268.trans (bJ some kr)
 f233:=Tryz.func270.trans (bJ some kr)
 f234:=Tryz.func271.trans (bJ some kr)
 f235:=Tryz.func272.trans (bJ some kr)
 f236:=Tryz.func273.trans (bJ some kr)
 f260:=Tryz.func311.trans (bJ some kr)
 f266:=Tryz.func337.trans (bJ some kr)
 f271:=Tryz.func300.trans (bJ some kr)
 t0:=Tryz.underlying0
 a0:=Tryz.isAgg0
 z0:=Tryz.sizeOf0
 v0:=Tryz.zeroValue0
 t3:=Tryz.underlying3
 a3:=Tryz.isAgg3
 z3:=Tryz.sizeOf3
 v3:=Tryz.zeroValue3
 t4:=Tryz.underlying4
 a4:=Tryz.isAgg4
 z4:=Tryz.sizeOf4
 v4:=Tryz.zeroValue4
 t5:=Tryz.underlying5
 a5:=Tryz.isAgg5
 z5:=Tryz.sizeOf5
 v5:=Tryz.zeroValue5
 t9:=Tryz.underlying9
 a9:=Tryz.isAgg9
 z9:=Tryz.sizeOf9
 v9:=Tryz.zeroValue9
 t21:=Tryz.underlying21
 a21:=Tryz.isAgg21
 z21:=Tryz.sizeOf21
 v21:=Tryz.zeroValue21
 t46:=Tryz.underlying135
 a46:=Tryz.isAgg135
 z46:=Tryz.sizeOf135
 v46:=Tryz.zeroValue135
 t105:=Tryz.underlying405
 a105:=Tryz.isAgg405
 z105:=Tryz.sizeOf405
 v105:=Tryz.zeroValue405
 t116:=Tryz.underlying372
 a116:=Tryz.isAgg372
 z116:=Tryz.sizeOf372
 t117:=Tryz.underlying373
 a117:=Tryz.isAgg373
 z117:=Tryz.sizeOf373
 v117:=Tryz.zeroValue373
 t119:=Tryz.underlying429
 a119:=Tryz.isAgg429
 z119:=Tryz.sizeOf429
 t124:=Tryz.underlying376
 a124:=Tryz.isAgg376
 z124:=Tryz.sizeOf376
 v124:=Tryz.zeroValue376
 t138:=Tryz.underlying431
 a138:=Tryz.isAgg431
 z138:=Tryz.sizeOf431
 v138:=Tryz.zeroValue431
 t139:=Tryz.underlying432
 a139:=Tryz.isAgg432
 z139:=Tryz.sizeOf432
 v139:=Tryz.zeroValue432
 g3:=kr
 g4:=by kernel_rfl}
def Tryz.azY:Go.Shelf.Ren:=⟨fun|171=>103|243=>161|246=>211|283=>236|284=>237|285=>238|286=>239|129=>265|317=>277|318=>278|319=>279|320=>280|337=>302|338=>303|n=>n,fun|3=>3|9=>9|2=>2|4=>4|171=>343|0=>0|53=>22|37=>71|5=>5|173=>345|212=>381|51=>23|20=>20|213=>382|46=>135|232=>419|233=>420|n=>n,fun|17=>1|18=>2|19=>3|n=>n⟩
theorem Tryz.ayS:Go.Proofs.Lays.n171 Tryz.prog Tryz.azY:={
 mixed:=kr
 f129:=Tryz.func265.trans (bJ some kr)
 f171:=Tryz.func103.trans (bJ some kr)
 f243:=Tryz.func161.trans (bJ some kr)
 f246:=Tryz.func211.trans (bJ some kr)
 f283:=Tryz.func236.trans (bJ some kr)
 f284:=Tryz.func237.trans (bJ some kr)
 f285:=Tryz.func238.trans (bJ some kr)
 f286:=Tryz.func239.trans (bJ some kr)
 f317:=Tryz.func277.trans (bJ some kr)
 f318:=Tryz.func278.trans (bJ some kr)
 f319:=Tryz.func279.trans (bJ some kr)
 f320:=Tryz.func280.trans (bJ some kr)
 f337:=Tryz.func302.trans (bJ some kr)
 f338:=Tryz.func303.trans (bJ some kr)
 t0:=Tryz.underlying0
 a0:=Tryz.isAgg0
 z0:=Tryz.sizeOf0
 v0:=Tryz.zeroValue0
 t2:=Tryz.underlying2
 a2:=Tryz.isAgg2
 z2:=Tryz.sizeOf2
 v2:=Tryz.zeroValue2
 t3:=Tryz.underlying3
 a3:=Tryz.isAgg3
 z3:=Tryz.sizeOf3
 v3:=Tryz.zeroValue3
 t4:=Tryz.underlying4
 a4:=Tryz.isAgg4
 z4:=Tryz.sizeOf4
 v4:=Tryz.zeroValue4
 t5:=Tryz.underlying5
 a5:=Tryz.isAgg5
 z5:=Tryz.sizeOf5
 v5:=Tryz.zeroValue5
 t9:=Tryz.underlying9
 a9:=Tryz.isAgg9
 z9:=Tryz.sizeOf9
 v9:=Tryz.zeroValue9
 t20:=Tryz.underlying20
 a20:=Tryz.isAgg20
 z20:=Tryz.sizeOf20
 v20:=Tryz.zeroValue20
 t37:=Tryz.underlying71
 a37:=Tryz.isAgg71
 z37:=Tryz.sizeOf71
 v37:=Tryz.zeroValue71
 t46:=Tryz.underlying135
 a46:=Tryz.isAgg135
 z46:=Tryz.sizeOf135
 v46:=Tryz.zeroValue135
 t51:=Tryz.underlying23
 a51:=Tryz.isAgg23
 z51:=Tryz.sizeOf23
 v51:=Tryz.zeroValue23
 t53:=Tryz.underlying22
 a53:=Tryz.isAgg22
 z53:=Tryz.sizeOf22
 v53:=Tryz.zeroValue22
 t171:=Tryz.underlying343
 a171:=Tryz.isAgg343
 z171:=Tryz.sizeOf343
 v171:=Tryz.zeroValue343
 t173:=Tryz.underlying345
 a173:=Tryz.isAgg345
 z173:=Tryz.sizeOf345
 v173:=Tryz.zeroValue345
 t212:=Tryz.underlying381
 a212:=Tryz.isAgg381
 z212:=Tryz.sizeOf381
 v212:=Tryz.zeroValue381
 t213:=Tryz.underlying382
 a213:=Tryz.isAgg382
 z213:=Tryz.sizeOf382
 t232:=Tryz.underlying419
 a232:=Tryz.isAgg419
 z232:=Tryz.sizeOf419
 v232:=Tryz.zeroValue419
 t233:=Tryz.underlying420
 a233:=Tryz.isAgg420
 z233:=Tryz.sizeOf420
 v233:=Tryz.zeroValue420
 g17:=kr
 g18:=kr
 g19:=by kernel_rfl}
open Go.RowKit
theorem eJ.LL {P:bB} {f:FuncId} {args:List V1} {r:V} (ho:Own P f)
  (h:∀(w:a7) (M:eS) (vals:Array bh),vals.size=args.length→(∀(i:Nat) (x:V1),args[i]? =some x→∃u,vals[i]? =some u∧db M ⟨fun _=>none,[]⟩ w x u)→
   Calls P f vals w fun e w'=>∃v,e= .returned v∧Below w.heap.size w w'∧RV M ⟨fun _=>none,[]⟩ w' r v):eJ P f args [] r []:={
 own:=ho
 call:=fun w M N vals hM pI lD lG hH hsz hv=>by
  have hN:N=fun _=>none:=by
   funext n
   cases hn:N n with
   |none=>rfl
   |some x=>exact absurd (pI n x hn) (by simp)
  subst hN;refine(h w M vals hsz hv).mono ?_;rintro e w' ⟨v,rfl,hb,hr⟩;exact⟨v,⟨fun _=>none,[]⟩,rfl,Frame.Gr hb,{ar:=rfl,names:=fun n x g h=> (by cases h),inj:=fun n m x y g h=> (by cases h),dz:=fun m hm=> .inl rfl},fun n b h=> (by cases h),hr⟩}
theorem avM {w:a7} {a:Addr} {v:bh} (h:w.cell? a=some v):a.block<w.heap.size:=by
 unfold World.cell? at h;split at h
 · rename_i hb;exact(fc.1 hb).1
 · cases h
theorem IW {f:FuncId} {fn:Func} (h:Tryz.prog.funcs[f]? =some fn) (hn:(fn.name== "runtime.NumGoroutine")=false) (hb:fn.body.isNone=false):Own Tryz.prog f:=⟨fn,h,hn,hb⟩
def agi (c:fo):Bool:=c.data.toList.all fun b=>decide (b.toNat<128)
def EP:List L→Option (List L):=fun ls=>match ls with
 |[.s s,.s c]=>if s.size≤9223372036854775807∧c.size<4294967281∧agi c=true then some [.s ⟨(Lib.trimS s.data.toList c.data.toList).toArray⟩]else none
 |_=>none
def ajf:au:=⟨231,[.c (.p .str (.v 0)),.c (.p .str (.v 1))],[],2,1,.v (.c (.p .str (.v 2))),[],EP,2020⟩
theorem KO {M:eS} {w:a7} {E:Env} {s:fo} {u:bh} (h:db M E w (.c (.p (.sc (.string s)))) u):u= .string s:=RP.dy h
theorem axp:ajf.ok Tryz.prog:=by
 intro ls os hl hF cg;change EP ls=some os at hF;unfold EP at hF;split at hF
 · rename_i s c;split at hF
   · rename_i hc;cases hF;refine eJ.LL (IW Tryz.func231 kr rfl) fun w M vals hsz hv=> ?_
     obtain⟨u0,e0,r0⟩:=hv 0 _ rfl;obtain⟨u1,e1,r1⟩:=hv 1 _ rfl;have r0:u0= .string s:=KO r0;have r1:u1= .string c:=KO r1;subst r0 r1;obtain rfl:vals= #[.string s,.string c]:=by
      obtain⟨l⟩:=vals
      match l,hsz with
      |[a,b],_=>
       have e0:a= .string s:=by simpa using e0
       have e1:b= .string c:=by simpa using e1
       rw[e0,e1]
     refine(Any.strings_Trim_laid Tryz.aqa kr s c w hc.1 hc.2.1 (ascii_of_all hc.2.2)).mono ?_;rintro e w' ⟨rfl,hb⟩;exact⟨_,rfl,hb,RP.sc rfl⟩
   · cases hF
 · cases hF
def nE:List L→Option (List L):=fun ls=>match ls with
 |[.i n]=>if 0≤n∧n<100 then some [.s ⟨(Lib.decDigits n.toNat).toArray⟩]else none
 |_=>none
def azZ:au:=⟨103,[.c (.p (.int .i64) (.v 0))],[],1,1,.v (.c (.p .str (.v 1))),[],nE,2021⟩
theorem YQ:azZ.ok Tryz.prog:=by
 intro ls os hl hF cg;change nE ls=some os at hF;unfold nE at hF;split at hF
 · rename_i n;split at hF
   · rename_i hc;cases hF;obtain⟨k,rfl⟩:=Int.eq_ofNat_of_zero_le hc.1;refine eJ.LL (IW Tryz.func103 kr rfl) fun w M vals hsz hv=> ?_
     obtain⟨u0,e0,r0⟩:=hv 0 _ rfl;have r0:u0= .int .i64 k:=RP.dy r0;subst r0;obtain rfl:vals= #[.int .i64 k]:=by
      obtain⟨l⟩:=vals
      match l,hsz with
      |[a],_=>
       have e0:a= .int .i64 k:=by simpa using e0
       rw[e0]
     refine(Any.strconv_Itoa_small Tryz.ayS k om w).mono ?_;rintro e w' ⟨rfl,rfl⟩;exact⟨_,rfl,Below.refl _ _,RP.sc rfl⟩
   · cases hF
 · cases hF
def Eg:List (List PV)→Option (List fo)
 |[]=>some []
 |[.sc (.string x)]::r=> (Eg r).map (x:: ·)
 |_=>none
theorem Xj:∀{rows:List (List PV)} {xs:List fo},Eg rows=some xs→rows=xs.map fun x=> [.sc (.string x)]
 |[],_,h=>by cases h;rfl
 |[.sc (.string x)]::r,xs,h=>by
  simp only[Eg,aT]at h;obtain⟨ys,h1,rfl⟩:=h;rw[cu,←Xj h1]
def tU:List L→Option (List L):=fun ls=>match ls with
 |[.r rows,.s sep]=>match Eg rows with
  |some xs=>if xs.length≤140737488355328∧(Lib.join (xs.map (·.data.toList)) sep.data.toList).length≤140737488355328 then some [.s ⟨(Lib.join (xs.map (·.data.toList)) sep.data.toList).toArray⟩]else none
  |none=>none
 |_=>none
def asF:au:=⟨102,[.c (.p .sl (.v 0)),.c (.p .str (.v 1))],[],2,1,.v (.c (.p .str (.v 2))),[],tU,2022⟩
theorem aqi:asF.ok Tryz.prog:=by
 intro ls os hl hF cg;change tU ls=some os at hF;unfold tU at hF;split at hF
 · rename_i rows sep;split at hF
   · rename_i xs qT;split at hF
     · rename_i hc;cases hF;have sV:=Xj qT;refine eJ.LL (IW Tryz.func102 kr rfl) fun w M vals hsz hv=> ?_
       obtain⟨u0,e0,r0⟩:=hv 0 _ rfl;obtain⟨u1,e1,r1⟩:=hv 1 _ rfl;have r0:RP (bad M _) w (.sl rows) u0:=r0;have r1:u1= .string sep:=KO r1;subst r1;obtain rfl:vals= #[u0,.string sep]:=by
         obtain⟨l⟩:=vals
         match l,hsz with
         |[a,b],_=>
          have e0:a=u0:=by simpa using e0
          have e1:b= .string sep:=by simpa using e1
          rw[e0,e1]
       by_cases hx:xs=[]
       · subst hx;obtain rfl:rows=[]:=sV
         cases r0 with
         |nil=>
          refine(Any.strings_Join_none Tryz.VO Tryz.T5 _ _ sep w).mono ?_;rintro e w' ⟨rfl,rfl⟩;exact⟨_,rfl,Below.refl _ _,RP.sc rfl⟩
         |row h0=>exact absurd rfl h0
       · cases r0 with
         |nil=>simp at sV;exact absurd sV.symm (by intro h;exact hx (by simpa using h))
         | @row _ g o cap sz f h0 hl2 hm hs hcc vH=>
          have aCE:sz=1:=by
           obtain⟨y,ys,rfl⟩:=Pk hx;have:=hs [.sc (.string y)] (by rw[sV];simp);simpa using this.symm
          subst aCE;have hlen:rows.length=xs.length:=by rw[sV];simp
          have zc:∀(j:Nat) x,xs[j]? =some x→w.cell? ⟨g,o+j,none⟩=some (.string x):=fun j x hj=>by
           have h1:rows[j]? =some [.sc (.string x)]:=by rw[sV,bV,hj];rfl
           have h2:=hcc j _ 0 (.sc (.string x)) h1 rfl;have h3:=RP.dy (vH j _ 0 (.sc (.string x)) h1 rfl);rw[h3]at h2;simpa using h2.1
          have fj:g<w.heap.size:=by
           obtain⟨y,ys,rfl⟩:=Pk hx;have:=zc 0 y rfl;exact avM this
          rw[hlen];refine(Any.strings_Join Tryz.VO Tryz.T5 g o cap xs sep w zc fj hc.1 om hc.2).mono ?_;rintro e w' ⟨rfl,hb⟩;exact⟨_,rfl,hb,RP.sc rfl⟩
     · cases hF
   · cases hF
 · cases hF
end
end
end Go.Proofs.YtndegphojkiblaaGreatDoor
