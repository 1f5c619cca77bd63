/- A part of the proof. -/
import Derived.Test.YtndegphojkiblaaGreatDoorG15
import Derived.Test.YtndegphojkiblaaGreatDoorG28
set_option linter.all false
set_option maxHeartbeats 4000000
set_option maxRecDepth 100000
namespace Go.Proofs.YtndegphojkiblaaGreatDoor
noncomputable section
section
open Go.RowKit AI
attribute [local irreducible] ae.wp
theorem XB {b:By} {w} (hb:bu 1 b=true) (hw:wN w) (h0:0≤w.off) (h1:w.off≤1048576) (hl:b.length≤4294967296):Fg [.r b,.i w.off,.r w.data,.b w.cut]=some [.r (fP b w)]:=by
 have hd:=hw.2;refine aH ?_;refine uR ?_;refine dC rfl hb oO oO om rfl (nW ?_);refine bc (fun hc=> ?_) (fun hc=> ?_)
 · have hc:w.cut=true:=hc;refine uR ?_;refine Lm rfl (uR ?_);refine nh ⟨by exact oO,by exact oO,by exact oO,lT hb⟩ (uR ?_);refine ad ?_;show[L.r _]=_;unfold fP;rw[ay hc];congr 2;rw[show(((min (b.length:Int) w.off).toNat-Int.toNat 0:Nat):Int).toNat=min b.length w.off.toNat by omega,List.take_eq_take_iff];omega
 have hc:¬w.cut=true:=by rw[show w.cut=false from hc];decide
 refine D4 ?_;refine wp_loop (I:=fun a=>∃m:Nat,a=[.r (b++List.replicate m gZ)]∧m≤w.off.toNat-b.length) (mu:=fun a=>match a with|[.r r]=>w.off.toNat-r.length|_=>0) ⟨0,by show[L.r b]=_;simp,om⟩ ?_;rintro a ⟨m,rfl,e1⟩;have hl2:(b++List.replicate m gZ).length=b.length+m:=by simp
 have hR:bu 1 (b++List.replicate m gZ)=true:=Bl hb (Fj rfl);refine uR ?_;refine bc (fun hc=> ?_) (fun hc=> ?_)
 · have hlt:((b++List.replicate m gZ).length:Int)<w.off:=dG hc;refine uR ?_;refine dC hR rfl oO oO om rfl (nW ?_);refine ad ⟨⟨m+1,?_,om⟩,?_⟩
   · rw[List.replicate_succ',←cd];rfl
   · show w.off.toNat- ((b++List.replicate m gZ)++_).length<w.off.toNat- (b++List.replicate m gZ).length;rw[bE];show w.off.toNat- ((b++List.replicate m gZ).length+1)<_;omega
 have mc:¬((b++List.replicate m gZ).length:Int)<w.off:=eh hc;have hm:m=w.off.toNat-b.length:=om;refine ad ?_;obtain⟨g,hg⟩:∃g,b++List.replicate m gZ=g:=⟨_,rfl⟩
 have CO:fP b w=g.take w.off.toNat++w.data++b.drop (w.off.toNat+w.data.length):=by
   unfold fP;rw[aC (by assumption),←hm,hg]
 have hdr:g.drop (w.off.toNat+w.data.length)=b.drop (w.off.toNat+w.data.length):=by
   rw[←hg,List.drop_append];rw[show(List.replicate m gZ).drop (w.off.toNat+w.data.length-b.length)=[]from pR (by simp;omega),eW]
 rw[hg]at hl2 hR mc;rw[hg];refine uR ?_;refine cm (n:=w.off+w.data.length) (by rfl) om om (uR ?_);refine bc (fun hc=> ?_) (fun hc=> ?_)
 · have ee:(g.length:Int)<w.off+w.data.length:=dG hc;refine uR ?_;refine nh ⟨by exact oO,h0,by exact oO,lT hR⟩ (uR ?_);refine dC (r:=g.take w.off.toNat++w.data) (Es hR) hw.1 oO oO om ?_ ?_
   · try dsimp only[At.ev,d1,d2,d3,d4,d5,d6,d7,d8,d9,e0,List.map,cb,Kd.pv]
     rw[show((w.off.toNat-Int.toNat 0:Nat):Int).toNat=w.off.toNat by omega]
   refine nW ?_;refine ad ?_;show[L.r _]=_;rw[CO,←hdr,pR om,eW]
 · have hle:¬(g.length:Int)<w.off+w.data.length:=eh hc;refine uR ?_;refine nh ⟨h0,by exact oO,by exact oO,lT hR⟩ (nW ?_);refine T7 ⟨hw.1,by exact oO⟩ rfl (nW ?_);refine ad ?_;show[L.r _]=_;rw[CO,←hdr];have e:min w.data.length (((w.off+(w.data.length:Int)).toNat-w.off.toNat:Nat):Int).toNat=w.data.length:=om;rw[e,ju]
theorem avh {s:fo} {i} (h:i<s.size):∃b,s[i]? =some b:=⟨s[i],getElem?_pos s i h⟩
theorem SJ {s:fo} {i} {b} (h:s[i]? =some b):i<s.size:=by
 rcases rz i s.size with h1|h1
 · exact h1
 · rw[getElem?_neg s i (by simpa using h1)]at h;cases h
theorem Ys (s) (hs:s.size≤4611686018427387904) {b} (hb:b=true ↔ gk s):C8 [.s s]=some [.b b]:=by
 refine aH ?_;refine D4 ?_;refine wp_loop (I:=fun a=>∃i:Nat,a=[.i i]∧i≤s.size∧∀(j:Nat) (c:UInt8),j<i→s[j]? =some c→kG c.toNat) (mu:=fun a=>match a with|[.i i]=>s.size-i.toNat|_=>0) ⟨0,rfl,om,fun j c hj=>by omega⟩ ?_;rintro a ⟨i,rfl,e1,e2⟩;refine nW ?_;refine FL (uR ?_);refine bc (fun hc=> ?_) (fun hc=> ?_)
 · have hi:i<s.size:=by have:(i:Int)<s.size:=dG hc;omega
   obtain⟨c,hcc⟩:=avh hi;refine axK (b:=c) oO (by exact hcc) (nW ?_);refine aB (bT (¬kG c.toNat)) ?_ ?_
   · repeat' first
       | (refine aI rfl (fun hx=> ?_) (fun hx=> ?_))
       | (refine uT rfl ?_)
     all_goals
       refine ad ?_;show bT (¬kG c.toNat) _
       try dsimp only[At.ev,d1,d2,d3,d4,d5,d6,d7,d8,d9,e0,List.map,cb,Kd.pv]
       first
         |exact oU (P:=¬kG c.toNat) (by unfold kG;omega)
         |exact dW (P:=¬kG c.toNat) (by unfold kG;omega)
         |exact dN (P:=¬kG c.toNat) (by unfold kG;omega)
   · rintro _ ⟨t,rfl,ht⟩;refine nW ?_;refine bc (fun hn=> ?_) (fun hn=> ?_)
     · have iI:=ht.1 hn;refine ad ?_;show[L.b false]=[.b b]
       rw[fu hb fun h=>iI (h.1 i c hcc)]
     · have aDS:kG c.toNat:=gg.1 fun h=>by
         have:=ht.2 h;rw[show t=false from hn]at this;cases this
       refine bg (i:=i) rfl om (nW ?_);refine ad ⟨⟨i+1,?_,om,fun j d hj hd=> ?_⟩,?_⟩
       · rfl
       · by_cases he:j=i
         · subst he;rw[hcc]at hd;cases hd;exact aDS
         · exact e2 j d om hd
       · show s.size- (((i+1:Nat):Int)).toNat<s.size-i;omega
 · have hi:¬i<s.size:=by have:¬(i:Int)<s.size:=eh hc;omega
   refine ad ?_;refine aB (bT (gk s)) ?_ ?_
   · refine FL (uR ?_);have hall:∀(j:Nat) (c:UInt8),s[j]? =some c→kG c.toNat:=fun j c hj=>e2 j c (by have:=SJ hj;omega) hj
     refine bc (fun hx=> ?_) (fun hx=> ?_)
     · have hx:(1:Int)≤s.size:=dG hx;refine FL (uR ?_);refine ad ?_;exact dW (show((s.size:Int)≤40) ↔ gk s from⟨fun h=> ⟨hall,om,om⟩,fun h=>by have:=h.2.2;omega⟩)
     · have hx:¬(1:Int)≤s.size:=eh hx;refine ad (dN fun h=>hx (by have:=h.2.1;omega))
   · rintro _ ⟨t,rfl,ht⟩;refine nW ?_;refine ad ?_;show[L.b t]=[.b b]
     rw[iK.2 (ht.trans hb.symm)]
theorem MC {α:Type} {p}:∀{l:List α},(∀x∈l.dropWhile p,p x=true)→∀x∈l,p x=true
 |[],_,x,hx=>by cases hx
 |a::l,h,x,hx=>by
  rw[List.dropWhile_cons]at h;split at h
  · rename_i ha;rcases dL.1 hx with rfl|hx
    · exact ha
    · exact MC h x hx
  · rename_i ha;exact absurd (h a iL) ha
theorem Xm {α:Type} {p}:∀{l:List α},(∀x∈l,p x=true)→l.dropWhile p=[]
 |[],_=>rfl
 |a::l,h=>by
  rw[List.dropWhile_cons,ay (h a iL)];exact Xm fun x hx=>h x (iM _ hx)
theorem aAC (l cs):Lib.trimS l cs=[] ↔∀x∈l,cs.contains x=true:=by
 unfold Lib.trimS Lib.trimLeftS Lib.trimRightS;constructor
 · intro h x hx;have h1:∀y∈(l.reverse.dropWhile (cs.contains ·)).reverse,cs.contains y=true:=MC fun y hy=>by rw[h]at hy;cases hy
   exact MC (l:=l.reverse) (fun y hy=>h1 y (acd.2 hy)) x (acd.2 hx)
 · intro h;rw[show l.reverse.dropWhile (cs.contains ·)=[]from Xm fun x hx=>h x (acd.1 hx)];rfl
def D5:List UInt8:=[97,98,99,100,101,102,103,104,105,106,107,108,109,110,111,112,113,114,115,116,117,118,119,120,121,122,48,49,50,51,52,53,54,55,56,57,46,45]
theorem asY:∀n:Nat,n<256→(D5.contains (UInt8.ofNat n)=true ↔ ((97≤n∧n≤122)∨(48≤n∧n≤57)∨n=46∨n=45)):=by decide
theorem chars (s:fo) (i:Nat):s[i]? =s.data.toList[i]?:=by
 have yX:s.data.toList.length=s.size:=Pm;rcases rz i s.size with h|h
 · rw[getElem?_pos s i h,bW om];simp[ByteArray.getElem_eq_getElem_data]
 · rw[getElem?_neg s i (by simpa using h),CX om]
theorem Dy (s) (hs:s.size≤4611686018427387904) {b} (hb:b=true ↔ gk s):DR [.s s]=some [.b b]:=by
 have yX:s.data.toList.length=s.size:=Pm;have hall:(∀x∈s.data.toList,D5.contains x=true) ↔∀(i:Nat) (c:UInt8),s[i]? =some c→kG c.toNat:=by
   have hl:∀x:UInt8,D5.contains x=true ↔ kG x.toNat:=fun x=>by
     have:=asY x.toNat x.toNat_lt
     rwa [UInt8.ofNat_toNat]at this
   constructor
   · exact fun h i c hi=> (hl c).1 (h c (dn ((chars s i).symm.trans hi)))
   · intro h x hx;obtain⟨i,hi⟩:=List.mem_iff_getElem?.1 hx;exact(hl x).2 (h i x ((chars s i).trans hi))
 have aDT:∀l:List UInt8,((⟨l.toArray⟩:fo).toList==(⟨#[]⟩:fo).toList)=true ↔ l=[]:=fun l=>by
   rw[beq_iff_eq,Lib.toList_data,Lib.toList_data]
 refine aH ?_;refine aB (bT (gk s)) ?_ ?_
 · refine mM rfl (nW ?_);have hne:((s.toList==(⟨#[]⟩:fo).toList)=true) ↔ s.size=0:=by
     rw[beq_iff_eq,Lib.toList_data,Lib.toList_data,←yX];exact⟨fun h=>by rw[h];rfl,fun h=>ni h⟩
   refine bc (fun hx=> ?_) (fun hx=> ?_)
   · have h1:1≤s.size:=by
       rcases Nat.eq_zero_or_pos s.size with h|h
       · rw[hne.2 h]at hx;cases hx
       · exact h
     refine FL (uR ?_);refine bc (fun hy=> ?_) (fun hy=> ?_)
     · have hy:(s.size:Int)≤40:=dG hy;refine ag (l:=[.s ⟨(Lib.trimS s.data.toList D5).toArray⟩]) ?_ rfl rfl ?_
       · exact ay ⟨om,dc,dc⟩
       refine nW ?_;refine mM rfl (nW ?_);refine ad ⟨_,rfl,?_⟩;rw[aDT,aAC,hall];exact⟨fun h=> ⟨h,om,om⟩,fun h=>h.1⟩
     · have hy:¬(s.size:Int)≤40:=eh hy;exact ad (dN fun h=>hy (by have:=h.2.2;omega))
   · exact ad (dN fun h=>by
       have hx:(!(s.toList==(⟨#[]⟩:fo).toList))=false:=hx;rw[Bool.not_eq_false']at hx;have:=hne.1 hx;have:=h.2.1;omega)
 · rintro _ ⟨t,rfl,ht⟩;refine nW ?_;refine ad ?_;show[L.b t]=[.b b]
   rw[iK.2 (ht.trans hb.symm)]
theorem Vy {b} {ws} {k} (h) (hn:¬(okW ws[k]∧(cD b (ws.take (k+1))).length≤1048576)):¬okF b ws:=fun hf=>hn (r5.1 hf.2 k h h)
theorem ahU {b} {w} (h:okW w) (hl:1048576<w.data.length):1048576< (fP b w).length:=by
 obtain⟨h0,h1,h2⟩:=h;have hc:¬w.cut=true:=fun h=>h2 ⟨h,om⟩
 have:=MH (b:=b) h0;unfold su at this;rw[aC hc]at this;omega
theorem YO {f} (hf:vB f) (hs:f.name.size≤4611686018427387904) {b} (hb:b=true ↔ gk f.name∧okF f.base f.aY):EK [.s f.name,.r f.base,.r (f.aY.map fE)]=some [.b b]:=by
 obtain⟨hr,hl,hp,hw⟩:=hf;obtain⟨bn,gH⟩:=dU (gk f.name);refine aH ?_;refine aB (bT (¬(gk f.name∧f.base.length≤1048576))) ?_ ?_
 · refine ag (Ys f.name hs gH) rfl rfl (uR ?_);refine bc (fun hx=> ?_) (fun hx=> ?_)
   · exact ad (cz fun h=>by rw[gH.2 h.1]at hx;cases hx)
   · have hx:(!bn)=false:=hx;have hn:gk f.name:=gH.1 (by simpa using hx);refine uR ?_;exact ad (dW (show(1048576:Int)<f.base.length ↔ _ from⟨fun h1 h2=>by omega,fun h=>ow fun h1=>h ⟨hn,om⟩⟩))
 rintro _ ⟨t,rfl,ht⟩;refine nW ?_;refine bc (fun hx=> ?_) (fun hx=> ?_)
 · refine ad ?_;show[L.b false]=[.b b]
   rw[fu hb fun h=>ht.1 hx ⟨h.1,h.2.1⟩]
 have hbase:gk f.name∧f.base.length≤1048576:=gg.1 fun h=>by rw[ht.2 h]at hx;cases hx
 refine aB (fun xs=>xs=[]∧b=true) ?_ ?_;rotate_left
 · rintro _ ⟨rfl,h⟩;refine nW ?_;refine ad ?_;show[L.b true]=[.b b]
   rw[h]
 refine wp_loop (I:=fun a=>∃i:Nat,a=[.r (cD f.base (f.aY.take i)),.i i]∧i≤f.aY.length∧vx f.base f.aY i) (mu:=fun a=>match a with|[_,.i i]=>f.aY.length-i.toNat|_=>0) ⟨0,rfl,om,QA⟩ ?_;rintro a ⟨i,rfl,e1,e2⟩;have pM:=ss hbase.2 e2 e1;have rm:bu 1 (cD f.base (f.aY.take i))=true:=tS hr fun w hx=>hw w (mf hx)
 refine uR ?_;refine bc (fun hc=> ?_) (fun hc=> ?_);rotate_left
 · have hi:i=f.aY.length:=by
     have:¬(i:Int)< (f.aY.map fE).length:=eh hc;rw[aA]at this;omega
   refine ad ⟨rfl,hb.2 ⟨hbase.1,hbase.2,r5.2 (by rw[←hi];exact e2)⟩⟩
 have hi:i<f.aY.length:=by
   have:(i:Int)< (f.aY.map fE).length:=dG hc;rw[aA]at this;omega
 have oj:=hw _ (b8 hi);have hno:=Vy (b:=f.base) hi;have hstep:=TW hi e2;refine aP (f:=fE) (j:=i) rfl rfl hi rfl ?_;rw[uZ hi]at hno hstep;have c9:=uZ (b:=f.base) hi;generalize f.aY[i]=w at oj hno hstep c9;generalize hg:cD f.base (f.aY.take i)=g at pM rm hno hstep c9;refine uR ?_;refine aB (bT (¬okW w∨1048576<w.data.length)) ?_ ?_
 · refine uR ?_;refine bc (fun hy=> ?_) (fun hy=> ?_)
   · have hy:w.off<0:=dG hy;exact ad (cz (.inl fun h=>by have:=h.1;omega))
   have hy:¬w.off<0:=eh hy;refine uR ?_;refine bc (fun hz=> ?_) (fun hz=> ?_)
   · have hz:1048576<w.off:=dG hz;exact ad (cz (.inl fun h=>by have:=h.2.1;omega))
   have hz:¬1048576<w.off:=eh hz;refine bc (fun hu=> ?_) (fun hu=> ?_)
   · refine uR ?_;refine bc (fun hv=> ?_) (fun hv=> ?_)
     · have hv:(0:Int)<w.data.length:=dG hv;exact ad (cz (.inl fun h=>h.2.2 ⟨hu,om⟩))
     · have hv:¬(0:Int)<w.data.length:=eh hv;refine uR ?_;exact ad (dW (show(1048576:Int)<w.data.length ↔ _ from⟨fun h=>by omega,fun h=>by
         rcases h with h|h
         · exact absurd ⟨om,om,fun k=>by omega⟩ h
         · omega⟩))
   · have hu:¬w.cut=true:=by rw[show w.cut=false from hu];decide
     refine uR ?_;exact ad (dW (show(1048576:Int)<w.data.length ↔ _ from⟨fun h=> .inr om,fun h=>by
       rcases h with h|h
       · exact absurd ⟨om,om,fun k=>hu k.1⟩ h
       · omega⟩))
 rintro _ ⟨u,rfl,hu⟩;refine nW ?_;refine bc (fun hy=> ?_) (fun hy=> ?_)
 · refine ad ?_;show[L.b false]=[.b b]
   rw [fu hb fun h=>hno (fun k=>by
     rcases hu.1 hy with q|q
     · exact q k.1
     · have:=ahU (b:=g) k.1 q;omega) h.2]
 have hy:¬(¬okW w∨1048576<w.data.length):=fun h=>by rw[hu.2 h]at hy;cases hy
 have aO:okW w:=gg.1 fun h=>hy (.inl h)
 refine ag (XB rm oj aO.1 aO.2.1 om) rfl rfl (uR ?_);refine bc (fun hz=> ?_) (fun hz=> ?_)
 · have hz:(1048576:Int)< (fP g w).length:=dG hz;refine ad ?_;show[L.b false]=[.b b]
   rw[fu hb fun h=>hno (fun k=>by omega) h.2]
 · have hz:¬(1048576:Int)< (fP g w).length:=eh hz;refine bg (i:=i) rfl om (nW ?_);refine ad ⟨⟨i+1,?_,om,hstep aO om⟩,?_⟩
   · show[L.r _,L.i (((i+1:Nat):Int))]=_;rw[c9]
   · show f.aY.length- (((i+1:Nat):Int)).toNat<f.aY.length-i;omega
theorem aut:gk ⟨#[120]⟩:=by
 refine⟨fun i b h=> ?_,dc,dc⟩;have:=SJ h;obtain rfl:i=0:=by
  have:i<1:=this;omega
 cases h;exact .inl dc
theorem BL {f} (hf:vB f) {s}:(okF f.base f.aY→mz [.s s,.r f.base,.r (f.aY.map fE)]=some [.r (cD f.base f.aY)])∧(¬okF f.base f.aY→mz [.s s,.r f.base,.r (f.aY.map fE)]=some [.r []]):=by
 obtain⟨b,hb⟩:=dU (gk ⟨#[120]⟩∧okF f.base f.aY);have hv:=YO (f:=⟨⟨#[120]⟩,f.base,f.aY⟩) hf (by show ByteArray.size ⟨#[120]⟩≤4611686018427387904;decide) hb;constructor
 · intro ho;refine aH ?_;refine ag hv rfl rfl (nW ?_);rw[hb.2 ⟨aut,ho⟩];refine uR ?_;refine bj rfl ?_;obtain⟨hr,hl,hp,hw⟩:=hf;have hk:=r5.1 ho.2;refine aB (fun xs=>xs=[.r (cD f.base f.aY)]) ?_ ?_
   · refine wp_loop (I:=fun a=>∃i:Nat,a=[.r (cD f.base (f.aY.take i)),.i i]∧i≤f.aY.length) (mu:=fun a=>match a with|[_,.i i]=>f.aY.length-i.toNat|_=>0) ⟨0,rfl,om⟩ ?_;rintro a ⟨i,rfl,e1⟩;have pM:=ss ho.1 (k:=i) (fun j hj h=>hk j hj om) e1;have rm:bu 1 (cD f.base (f.aY.take i))=true:=tS hr fun w hx=>hw w (mf hx)
     refine uR ?_;refine bc (fun hc=> ?_) (fun hc=> ?_)
     · have hi:i<f.aY.length:=by
         have:(i:Int)< (f.aY.map fE).length:=dG hc;rw[aA]at this;omega
       have oj:=hw _ (b8 hi);have aO:=(hk i hi hi).1;refine aP (f:=fE) (j:=i) rfl rfl hi rfl ?_;have c9:=uZ (b:=f.base) hi;refine uR ?_;refine ag (XB rm oj aO.1 aO.2.1 om) rfl rfl (nW ?_);refine bg (i:=i) rfl om (nW ?_);refine ad ⟨⟨i+1,?_,om⟩,?_⟩
       · show[L.r _,L.i (((i+1:Nat):Int))]=_;rw[c9]
       · show f.aY.length- (((i+1:Nat):Int)).toNat<f.aY.length-i;omega
     · have hi:i=f.aY.length:=by
         have:¬(i:Int)< (f.aY.map fE).length:=eh hc;rw[aA]at this;omega
       refine ad ?_;show[L.r (cD f.base (f.aY.take i))]=_;rw[hi,ju]
   · rintro _ rfl;have pM:=ss ho.1 hk (cn _);rw[ju]at pM;have rm:bu 1 (cD f.base f.aY)=true:=tS hr hw;refine uR ?_;refine dC rfl rm oO oO om rfl (nW ?_);exact ad rfl
 · intro ho;refine aH ?_;refine ag hv rfl rfl (nW ?_);rw[fu hb fun h=>ho h.2];refine uR ?_;refine dX rfl ?_;exact ad rfl
def xo (d:Dk) (i:Nat):Prop:=∀h:i<d.files.length,(gk d.files[i].name∧okF d.files[i].base d.files[i].aY)∧∀h0:0<i,pg d.files[i].name (d.files[i-1]'om).name=false
theorem ajN {d} (hd:mE d) {b} (hb:b=true ↔ lU d):IS [.i d.cap,.i d.left,.r (d.files.map aQ)]=some [.b b]:=by
 refine aH ?_;refine aB (bT (¬(0≤d.cap∧-1≤d.left∧d.files.length≤256))) ?_ ?_
 · refine uR ?_;refine bc (fun hx=> ?_) (fun hx=> ?_)
   · have hx:d.cap<0:=dG hx;exact ad (cz om)
   have hx:¬d.cap<0:=eh hx;refine uR ?_;refine bc (fun hy=> ?_) (fun hy=> ?_)
   · have hy:d.left< -1:=dG hy;exact ad (cz om)
   have hy:¬d.left< -1:=eh hy;refine uR ?_;exact ad (dW (show(256:Int)< (d.files.map aQ).length ↔ _ by rw[aA];omega))
 rintro _ ⟨t,rfl,ht⟩;refine nW ?_;refine bc (fun hx=> ?_) (fun hx=> ?_)
 · refine ad ?_;show[L.b false]=[.b b]
   rw[fu hb fun h=>ht.1 hx h.1]
 have js:0≤d.cap∧-1≤d.left∧d.files.length≤256:=gg.1 fun h=>by rw[ht.2 h]at hx;cases hx
 refine aB (fun xs=>xs=[]∧b=true) ?_ ?_;rotate_left
 · rintro _ ⟨rfl,h⟩;refine nW ?_;refine ad ?_;show[L.b true]=[.b b]
   rw[h]
 refine wp_loop (I:=fun a=>∃i:Nat,a=[.i i]∧i≤d.files.length∧∀j,j<i→xo d j) (mu:=fun a=>match a with|[.i i]=>d.files.length-i.toNat|_=>0) ⟨0,rfl,om,fun j hj=>by omega⟩ ?_;rintro a ⟨i,rfl,e1,e2⟩;refine uR ?_;refine bc (fun hc=> ?_) (fun hc=> ?_);rotate_left
 · have hi:i=d.files.length:=by
     have:¬(i:Int)< (d.files.map aQ).length:=eh hc;rw[aA]at this;omega
   exact ad ⟨rfl,hb.2 ⟨js,fun j hj=>e2 j om hj⟩⟩
 have hi:i<d.files.length:=by
   have:(i:Int)< (d.files.map aQ).length:=dG hc;rw[aA]at this;omega
 have jb:=hd.2 _ (b8 hi);refine aB (bT (¬xo d i)) ?_ ?_;rotate_left
 · rintro _ ⟨u,rfl,hu⟩;refine nW ?_;refine bc (fun hy=> ?_) (fun hy=> ?_)
   · refine ad ?_;show[L.b false]=[.b b]
     rw[fu hb fun h=>hu.1 hy (h.2 i)]
   have hg:xo d i:=gg.1 fun h=>by rw[hu.2 h]at hy;cases hy
   refine bg (i:=i) rfl om (nW ?_);refine ad ⟨⟨i+1,?_,om,fun j hj=> ?_⟩,?_⟩
   · rfl
   · by_cases he:j=i
     · subst he;exact hg
     · exact e2 j om
   · show d.files.length- (((i+1:Nat):Int)).toNat<d.files.length-i;omega
 refine aP (f:=aQ) (j:=i) rfl rfl hi rfl (uR ?_);obtain⟨bf,wb⟩:=dU (gk d.files[i].name∧okF d.files[i].base d.files[i].aY);refine ag (YO jb.1 jb.2 wb) rfl rfl (uR ?_);refine bc (fun hy=> ?_) (fun hy=> ?_)
 · exact ad (cz fun h=>by rw[wb.2 (h hi).1]at hy;cases hy)
 have hy:(!bf)=false:=hy;have aO:=wb.1 (by simpa using hy);refine uR ?_;refine bc (fun hz=> ?_) (fun hz=> ?_)
 · have h0:0<i:=by have:(0:Int)<i:=dG hz;omega
   refine aP (f:=aQ) (j:=i) rfl rfl hi rfl (uR ?_);refine ck (n:=((i-1:Nat):Int)) oO om om (nW ?_);refine aP (f:=aQ) (j:=i-1) rfl rfl om rfl (uR ?_);refine mM rfl (nW ?_);refine ad ⟨pg d.files[i].name (d.files[i-1]'om).name,rfl,?_⟩;constructor
   · intro h k;have:=(k hi).2 h0;rw[h]at this;cases this
   · intro h;rcases ace (pg d.files[i].name (d.files[i-1]'om).name)with q|q
     · exact q
     · exact absurd (fun _=> ⟨aO,fun _=>q⟩) h
 · have h0:¬0<i:=by have:¬(0:Int)<i:=eh hz;omega
   exact ad (dN fun h=>h fun _=> ⟨aO,fun k=>absurd k h0⟩)
theorem Jq {d} {s} (hl:d.files.length≤4294967296) {r:Int} (hr:∀i,ji d s i→r=i) (hn:mw d s→r= -1):En [.i d.cap,.i d.left,.r (d.files.map aQ),.s s]=some [.i r]:=by
 refine aH ?_;refine aB (fun xs=>xs=[]∧mw d s) ?_ ?_;rotate_left
 · rintro _ ⟨rfl,h⟩;refine nW ?_;refine ad ?_;show[L.i (-1)]=[.i r]
   rw[hn h]
 refine wp_loop (I:=fun a=>∃i:Nat,a=[.i i]∧i≤d.files.length∧∀(j:Nat) (h:j<d.files.length),j<i→(d.files[j].name.toList==s.toList)=false) (mu:=fun a=>match a with|[.i i]=>d.files.length-i.toNat|_=>0) ⟨0,rfl,om,fun j _ hj=>by omega⟩ ?_;rintro a ⟨i,rfl,e1,e2⟩;refine uR ?_;refine bc (fun hc=> ?_) (fun hc=> ?_);rotate_left
 · have hi:i=d.files.length:=by
     have:¬(i:Int)< (d.files.map aQ).length:=eh hc;rw[aA]at this;omega
   exact ad ⟨rfl,fun j hj=>e2 j hj om⟩
 have hi:i<d.files.length:=by
   have:(i:Int)< (d.files.map aQ).length:=dG hc;rw[aA]at this;omega
 refine aP (f:=aQ) (j:=i) rfl rfl hi rfl (uR ?_);refine mM rfl (nW ?_);refine bc (fun hy=> ?_) (fun hy=> ?_)
 · refine ad ?_;show[L.i i]=[.i r]
   rw[hr i ⟨hi,hy,fun j hj=>e2 j om hj⟩]
 · refine bg (i:=i) rfl om (nW ?_);refine ad ⟨⟨i+1,?_,om,fun j hj jI=> ?_⟩,?_⟩
   · rfl
   · by_cases he:j=i
     · subst he;exact hy
     · exact e2 j hj om
   · show d.files.length- (((i+1:Nat):Int)).toNat<d.files.length-i;omega
def Rd (d:Dk) (s:fo):Prop:=lU d∧gk s∧d.left≠0
theorem ND {d} (hd:mE d) {s} (hs:s.size≤4611686018427387904):∃e,G8 [.i d.cap,.i d.left,.r (d.files.map aQ),.s s]=some [.i e]∧(e=0 ↔ Rd d s):=by
 obtain⟨bd,js⟩:=dU (lU d);obtain⟨bn,gH⟩:=dU (gk s)
 suffices h:Fo Rr [.i d.cap,.i d.left,.r (d.files.map aQ),.s s]=some [.i (if bd=false∨bn=false then 1 else if d.left=0 then 13 else 0)]by
   refine⟨_,h,?_⟩;unfold Rd;rw[←js,←gH];cases bd<;>cases bn<;>simp
 refine aH ?_;refine aB (bT (bd=false∨bn=false)) ?_ ?_
 · refine ag (ajN hd js) rfl rfl (uR ?_);refine bc (fun hx=> ?_) (fun hx=> ?_)
   · have hx:(!bd)=true:=hx;exact ad (cz (.inl (by simpa using hx)))
   · have hx:(!bd)=false:=hx;refine ag (Ys s hs gH) rfl rfl (uR ?_);refine ad ⟨_,rfl,?_⟩;cases bd<;>simp_all
 rintro _ ⟨t,rfl,ht⟩;refine nW ?_;refine bc (fun hx=> ?_) (fun hx=> ?_)
 · refine ad ?_;show[L.i 1]=_;rw[ay (ht.1 hx)]
 have hno:¬(bd=false∨bn=false):=fun h=>by rw[ht.2 h]at hx;cases hx
 refine uR ?_;refine bc (fun hy=> ?_) (fun hy=> ?_)
 · refine ad ?_;show[L.i 13]=_;rw[aC hno,ay (dG hy)]
 · refine ad ?_;show[L.i 0]=_;rw[aC hno,aC (eh hy)]
theorem IP (d) (s):mw d s∨∃i,ji d s i:=by
 have : ∀n,n≤d.files.length→(∀(j:Nat) (h:j<d.files.length),j<n→(d.files[j].name.toList==s.toList)=false)∨∃i,ji d s i:=fun n=>by
   induction n with
   |zero=>exact fun _=> .inl fun j _ hj=>om
   |succ n ih=>
    intro hn;rcases ih om with h|h
    · rcases ace (d.files[n].name.toList==s.toList)with q|q
      · exact .inr ⟨n,om,q,fun j hj=>h j om hj⟩
      · refine .inl fun j hj Cn=> ?_
        by_cases he:j=n
        · subst he;exact q
        · exact h j hj om
    · exact .inr h
 rcases this _ (cn _)with h|h
 · exact .inl fun j hj=>h j hj hj
 · exact .inr h
theorem ji.uniq {d} {s} {i j} (hi:ji d s i) (hj:ji d s j):i=j:=by
 obtain⟨a1,a2,a3⟩:=hi;obtain⟨b1,b2,b3⟩:=hj;rcases HZ i j with h|h|h
 · rw[b3 i h]at a2;cases a2
 · exact h
 · rw[a3 j h]at b2;cases b2
theorem Ki {d} (hd:mE d) {s} (hs:s.size≤4611686018427387904):
   (∀i,Rd d s→ji d s i→o5 [.i d.cap,.i d.left,.r (d.files.map aQ),.s s]=some [.i i,.i 0])∧(¬(Rd d s∧∃i,ji d s i)→∃e,e≠0∧o5 [.i d.cap,.i d.left,.r (d.files.map aQ),.s s]=some [.i (-1),.i e]):=by
 obtain⟨e,he,hr⟩:=ND hd hs;obtain⟨r,hr1,hr2⟩:∃r:Int,(∀i,ji d s i→r=i)∧(mw d s→r= -1):=by
   rcases IP d s with h| ⟨i,h⟩
   · exact⟨-1,⟨fun i hi=> (by obtain⟨a1,a2,_⟩:=hi;rw[h i a1]at a2;cases a2),fun _=>rfl⟩⟩
   · exact⟨i,⟨fun j hj=> (by rw[h.uniq hj]),fun hn=> (by obtain⟨a1,a2,_⟩:=h;rw[hn i a1]at a2;cases a2)⟩⟩
 have hf:=Jq (s:=s) hd.1 hr1 hr2;constructor
 · intro i lI hi;refine aH ?_;refine ag he rfl rfl (uR ?_);refine ba rfl (fun h=>h (hr.2 lI)) ?_;refine ag hf rfl rfl (nW ?_);have:=hr1 i hi;subst this;refine uR ?_;refine ba rfl oO ?_;refine ad ?_;rfl
 · intro hno;by_cases lI:Rd d s
   · have hn:mw d s:=(IP d s).resolve_right fun h=>hno ⟨lI,h⟩
     refine⟨6,dc,?_⟩;refine aH ?_;refine ag he rfl rfl (uR ?_);refine ba rfl (fun h=>h (hr.2 lI)) ?_;refine ag hf rfl rfl (nW ?_);rw[hr2 hn];refine uR ?_;refine dX rfl ?_;exact ad rfl
   · refine⟨e,fun h=>lI (hr.1 h),?_⟩;refine aH ?_;refine ag he rfl rfl (uR ?_);refine cS rfl (fun h=>lI (hr.1 h)) ?_;exact ad rfl
theorem arG {d} (hd:mE d) {s} (hs:s.size≤4611686018427387904):
   (∀c,Wh d s c→∀off n:Int,(jy c off n→ug [.i d.cap,.i d.left,.r (d.files.map aQ),.s s,.i off,.i n]=some [.r [],.i 2])∧(¬jy c off n→ug [.i d.cap,.i d.left,.r (d.files.map aQ),.s s,.i off,.i n]=some [.r ((c.take (off+n).toNat).drop off.toNat),.i 0]))∧((∀c,¬Wh d s c)→∃e,e≠0∧∀off n:Int,ug [.i d.cap,.i d.left,.r (d.files.map aQ),.s s,.i off,.i n]=some [.r [],.i e]):=by
 obtain⟨yes,no⟩:=Ki hd hs;constructor
 · rintro c ⟨h1,h2,h3,i,hi,rfl⟩ off n;have hat:=yes i ⟨h1,h2,h3⟩ hi;have hlt:=hi.1;have jb:=hd.2 _ (b8 hlt);have aO:=(h1.2 i hlt).1.2;have hc:=(BL jb.1 (s:=d.files[i].name)).1 aO;have hlen:=ss aO.1 (r5.1 aO.2) (cn _);rw[ju]at hlen;have qY:=tS jb.1.1 jb.1.2.2.2;have pre:∀{o:List L},(∀x:Bool,(x=true ↔ jy (cD d.files[i].base d.files[i].aY) off n)→(x=true→o=[.r [],.i 2])∧(x=false→o=[.r (((cD d.files[i].base d.files[i].aY).take (off+n).toNat).drop off.toNat),.i 0]))→ug [.i d.cap,.i d.left,.r (d.files.map aQ),.s s,.i off,.i n]=some o:=fun {o} ho=>by
    refine aH ?_;refine ag hat rfl rfl (uR ?_);refine bj rfl ?_;refine aP (f:=aQ) (j:=i) rfl rfl hlt rfl (uR ?_);refine ag hc rfl rfl (nW ?_);generalize cD d.files[i].base d.files[i].aY=g at hlen qY ho;refine aB (bT (jy g off n)) ?_ ?_
    · unfold jy;refine uR ?_;refine aI rfl (fun g1=>ad (cz om)) fun g1=>uR ?_
      refine aI rfl (fun g2=>ad (cz om)) fun g2=>uR ?_
      refine aI rfl (fun g3=>ad (cz om)) fun g3=>uR ?_
      refine ck (n:=(g.length:Int) -off) rfl om om (uR ?_);exact ad (dW om)
    · rintro _ ⟨x,rfl,hx⟩;refine nW ?_;refine bc (fun hq=> ?_) (fun hq=> ?_)
      · rw[(ho x hx).1 hq];exact ad rfl
      have hno:¬jy g off n:=fun h=>by rw[hx.2 h]at hq;cases hq
      unfold jy at hno;rw[(ho x hx).2 hq];refine cm (n:=off+n) rfl om om (uR ?_);refine nh ⟨by show 0≤off;omega,by show off≤off+n;omega,by show(off+n).toNat≤g.length;omega,lT qY⟩ (uR ?_);refine ad ?_;show[L.r ((g.drop off.toNat).take ((((off+n).toNat-off.toNat:Nat):Int)).toNat),L.i 0]=_;rw[fA,List.drop_take]
   exact⟨fun h=>pre fun x hx=> ⟨fun _=>rfl,fun hx'=>by rw[hx.2 h]at hx';cases hx'⟩,fun h=>pre fun x hx=> ⟨fun hx'=>absurd (hx.1 hx') h,fun _=>rfl⟩⟩
 · intro hno;obtain⟨e,he,hat⟩:=no (fun ⟨h,i,hi⟩=>hno _ ⟨h.1,h.2.1,h.2.2,i,hi,rfl⟩);refine⟨e,he,fun off n=>aH ?_⟩;refine ag hat rfl rfl (uR ?_);refine cS rfl he ?_;exact ad rfl
theorem avr {d} (hd:mE d) {s} (hs:s.size≤4611686018427387904):
   (∀c,Wh d s c→Ap [.i d.cap,.i d.left,.r (d.files.map aQ),.s s]=some [.r c,.i 0])∧((∀c,¬Wh d s c)→∃e,e≠0∧Ap [.i d.cap,.i d.left,.r (d.files.map aQ),.s s]=some [.r [],.i e]):=by
 obtain⟨yes,no⟩:=Ki hd hs;constructor
 · rintro c ⟨h1,h2,h3,i,hi,rfl⟩;have hat:=yes i ⟨h1,h2,h3⟩ hi;have hlt:=hi.1;have jb:=hd.2 _ (b8 hlt);have aO:=(h1.2 i hlt).1.2;have hc:=(BL jb.1 (s:=d.files[i].name)).1 aO;have O6:C3 [.i d.cap,.i d.left,.r (d.files.map aQ),.s s]=some [.i (cD d.files[i].base d.files[i].aY).length,.i 0]:=by
    refine aH ?_;refine ag hat rfl rfl (uR ?_);refine bj rfl ?_;refine aP (f:=aQ) (j:=i) rfl rfl hlt rfl (uR ?_);refine ag hc rfl rfl (uR ?_);exact ad rfl
   have aDU:ug [.i d.cap,.i d.left,.r (d.files.map aQ),.s s,.i 0,.i (cD d.files[i].base d.files[i].aY).length]=some [.r (cD d.files[i].base d.files[i].aY),.i 0]:=by
    rw[((arG hd hs).1 _ ⟨h1,h2,h3,i,hi,rfl⟩ 0 _).2 (by unfold jy;omega),Int.zero_add,fA,ju,H2,zk]
   refine aH ?_;refine ag O6 rfl rfl (uR ?_);refine bj rfl ?_;refine ag aDU rfl rfl (nW ?_);exact ad rfl
 · intro hno;obtain⟨e,he,hat⟩:=no (fun ⟨h,i,hi⟩=>hno _ ⟨h.1,h.2.1,h.2.2,i,hi,rfl⟩);refine⟨e,he,?_⟩;have O6:C3 [.i d.cap,.i d.left,.r (d.files.map aQ),.s s]=some [.i 0,.i e]:=by
    refine aH ?_;refine ag hat rfl rfl (uR ?_);refine cS rfl he ?_;exact ad rfl
   refine aH ?_;refine ag O6 rfl rfl (uR ?_);refine cS rfl he ?_;exact ad rfl
theorem L0 {w} {n} (h0: -4611686018427387904≤w.off) (h1:w.off≤4611686018427387904) (hw:wN w):zD [.i w.off,.r w.data,.b w.cut,.i n]=some [.i (su n w)]:=by
 have hd:=hw.2;refine aH ?_;refine bc (fun hc=> ?_) (fun hc=> ?_)
 · refine Lm rfl (nW ?_);refine ad ?_;show[L.i (min n w.off)]=_;unfold su;rw[ay (show w.cut=true from hc)]
 · refine uR ?_;refine cm (n:=w.off+w.data.length) (by rfl) om om (nW ?_);refine Kt rfl (nW ?_);refine ad ?_;show[L.i (max n (w.off+w.data.length))]=_;unfold su;rw[aC (by rw[show w.cut=false from hc];decide)]
theorem V4 {f} (hf:vB f) {b} (hb:b=true ↔ okF f.base f.aY):EV [.s f.name,.r f.base,.r (f.aY.map fE)]=some [.b b]:=by
 obtain⟨hr,hl,hp,hw⟩:=hf;refine aH ?_;refine uR ?_;refine bc (fun hx=> ?_) (fun hx=> ?_)
 · have hx:(1048576:Int)<f.base.length:=dG hx;refine ad ?_;show[L.b false]=[.b b]
   rw[fu hb fun h=>by have:=h.1;omega]
 have hx:¬(1048576:Int)<f.base.length:=eh hx;have hbase:f.base.length≤1048576:=om;refine aB (fun xs=>xs=[]∧b=true) ?_ ?_;rotate_left
 · rintro _ ⟨rfl,h⟩;refine nW ?_;refine ad ?_;show[L.b true]=[.b b]
   rw[h]
 refine uR ?_;refine wp_loop (I:=fun a=>∃i:Nat,a=[.i (cD f.base (f.aY.take i)).length,.i i]∧i≤f.aY.length∧vx f.base f.aY i) (mu:=fun a=>match a with|[_,.i i]=>f.aY.length-i.toNat|_=>0) ⟨0,rfl,om,QA⟩ ?_;rintro a ⟨i,rfl,e1,e2⟩;have pM:=ss hbase e2 e1;refine uR ?_;refine bc (fun hc=> ?_) (fun hc=> ?_);rotate_left
 · have hi:i=f.aY.length:=by
     have:¬(i:Int)< (f.aY.map fE).length:=eh hc;rw[aA]at this;omega
   exact ad ⟨rfl,hb.2 ⟨hbase,r5.2 (by rw[←hi];exact e2)⟩⟩
 have hi:i<f.aY.length:=by
   have:(i:Int)< (f.aY.map fE).length:=dG hc;rw[aA]at this;omega
 have oj:=hw _ (b8 hi);have hno:=Vy (b:=f.base) hi;have hstep:=TW hi e2;refine aP (f:=fE) (j:=i) rfl rfl hi rfl ?_;rw[uZ hi]at hno hstep;have c9:=uZ (b:=f.base) hi;generalize f.aY[i]=w at oj hno hstep c9;generalize hg:cD f.base (f.aY.take i)=g at pM hno hstep c9;refine uR ?_;refine aB (bT (¬okW w)) ?_ ?_
 · refine uR ?_;refine bc (fun hy=> ?_) (fun hy=> ?_)
   · have hy:w.off<0:=dG hy;exact ad (cz (fun h=>by have:=h.1;omega))
   have hy:¬w.off<0:=eh hy;refine uR ?_;refine bc (fun hz=> ?_) (fun hz=> ?_)
   · have hz:1048576<w.off:=dG hz;exact ad (cz (fun h=>by have:=h.2.1;omega))
   have hz:¬1048576<w.off:=eh hz;refine bc (fun hu=> ?_) (fun hu=> ?_)
   · refine uR ?_;exact ad (dW (show(0:Int)<w.data.length ↔ _ from⟨fun h k=>k.2.2 ⟨hu,om⟩,fun h=>ow fun k=>h ⟨om,om,fun q=>k om⟩⟩))
   · have hu:¬w.cut=true:=by rw[show w.cut=false from hu];decide
     exact ad (dN fun h=>h ⟨om,om,fun k=>hu k.1⟩)
 rintro _ ⟨u,rfl,hu⟩;refine nW ?_;refine bc (fun hy=> ?_) (fun hy=> ?_)
 · refine ad ?_;show[L.b false]=[.b b]
   rw[fu hb fun h=>hno (fun k=>hu.1 hy k.1) h]
 have aO:okW w:=gg.1 fun h=>by
   rw[hu.2 h]at hy;cases hy
 have hlen:=MH (b:=g) aO.1;refine ag (L0 (n:=g.length) (by have:=aO.1;omega) (by have:=aO.2.1;omega) oj) rfl rfl ?_;rw[←hlen];refine uR ?_;refine bc (fun hz=> ?_) (fun hz=> ?_)
 · have hz:(1048576:Int)< (fP g w).length:=dG hz;refine ad ?_;show[L.b false]=[.b b]
   rw[fu hb fun h=>hno (fun k=>by omega) h]
 · have hz:¬(1048576:Int)< (fP g w).length:=eh hz;refine bg (i:=i) rfl om (nW ?_);refine ad ⟨⟨i+1,?_,om,hstep aO om⟩,?_⟩
   · show[L.i _,L.i (((i+1:Nat):Int))]=_;rw[c9]
   · show f.aY.length- (((i+1:Nat):Int)).toNat<f.aY.length-i;omega
theorem aAh {b:By} {w} (hb:bu 1 b=true) (hw:wN w) (aO:okW w) (hl:b.length≤1048576):JN [.i w.off,.r w.data,.b w.cut,.r b]=some [.r (fP b w)]:=by
 obtain⟨h0,h1,h2⟩:=aO;have hd:=hw.2;refine aH ?_;refine bc (fun hc=> ?_) (fun hc=> ?_)
 · have hc:w.cut=true:=hc;refine uR ?_;refine Kt (n:=w.off) oO (nW ?_);refine Lm rfl (uR ?_);refine nh ⟨by exact oO,by exact oO,by exact oO,lT hb⟩ (uR ?_);refine ad ?_;show[L.r _]=_;unfold fP;rw[ay hc];congr 2;rw[show(((min (b.length:Int) w.off).toNat-Int.toNat 0:Nat):Int).toNat=min b.length w.off.toNat by omega,List.take_eq_take_iff];omega
 have hc:¬w.cut=true:=by rw[show w.cut=false from hc];decide
 have hgr:su b.length w=max (b.length:Int) (w.off+w.data.length):=by unfold su;rw[aC hc]
 refine aB (fun xs=>xs=[.r (b++List.replicate (w.off.toNat+w.data.length-b.length) gZ)]) ?_ ?_
 · refine uR ?_;refine ag (L0 (n:=b.length) om om hw) rfl rfl ?_;rw[hgr];refine uR ?_;refine bc (fun hx=> ?_) (fun hx=> ?_)
   · have hx:(b.length:Int)<max (b.length:Int) (w.off+w.data.length):=dG hx;have e:max (b.length:Int) (w.off+w.data.length) -b.length=((w.off.toNat+w.data.length-b.length:Nat):Int):=om;have aDV:w.off.toNat+w.data.length-b.length≤8589934592:=om;have dh:0<w.off.toNat+w.data.length-b.length:=om;refine uR ?_;refine ck (n:=((w.off.toNat+w.data.length-b.length:Nat):Int)) e om om (nW ?_);generalize w.off.toNat+w.data.length-b.length=m at aDV dh;refine x_ (r:=List.replicate m gZ) ⟨by exact oO,by exact oO,by exact oO⟩ rfl (nW ?_);refine iC (r:=gZ) oO (by simp only[At.ev,d3,d4,d5,d6,d8];rw[H2,Pw,ay dh]) rfl ?_;refine nW ?_;refine dC hb (Fj rfl) oO oO om rfl (nW ?_);exact ad rfl
   · have hx:¬(b.length:Int)<max (b.length:Int) (w.off+w.data.length):=eh hx;refine ad ?_;show[L.r b]=_;rw[show w.off.toNat+w.data.length-b.length=0 by omega];simp
 rintro _ rfl;obtain⟨m,hm⟩:∃m,m=w.off.toNat+w.data.length-b.length:=⟨_,rfl⟩
 rw[←hm];have kQ:(b++List.replicate m gZ).length=b.length+m:=by simp
 have hR:bu 1 (b++List.replicate m gZ)=true:=Bl hb (Fj rfl);have CO:fP b w=(b++List.replicate m gZ).take w.off.toNat++w.data++(b++List.replicate m gZ).drop (w.off.toNat+w.data.length):=by
   unfold fP;rw[aC hc];congr 1
   · congr 1;rw[List.take_append,List.take_append,List.take_replicate,List.take_replicate];congr 2;omega
   · rw[List.drop_append,show(List.replicate m gZ).drop (w.off.toNat+w.data.length-b.length)=[]from pR (by simp;omega),eW]
 generalize b++List.replicate m gZ=g at kQ hR CO;refine uR ?_;refine nh ⟨h0,by exact oO,by exact oO,lT hR⟩ (nW ?_);refine T7 ⟨hw.1,by exact oO⟩ rfl (nW ?_);refine ad ?_;show[L.r _]=_;rw[CO];have e:min w.data.length (((g.length:Int).toNat-w.off.toNat:Nat):Int).toNat=w.data.length:=om;rw[e,ju]
theorem adK {b:By} (hb:bu 1 b=true) (hl:b.length≤4294967296):LB [.r b]=some [.r b]:=by
 refine aH ?_;refine uR ?_;refine yH (r:=[]) ⟨by exact oO,by exact oO,by exact oO,hb⟩ (by simp only[At.ev,d3,d4,d5,d6,d8];rw[pR (by simp)]) (nW ?_);refine yH (r:=b) ⟨by exact oO,by exact oO,by exact oO,hb⟩ (by simp only[At.ev,d3,d4,d5,d6,d8];rw[H2,zk,fA,ju]) (nW ?_);exact ad rfl
theorem Rx {b:By} (hb:bu 1 b=true) (hl:b.length≤4294967296):xv [.r b]=some []:=ay ⟨hb,om⟩
theorem auJ {f} (hf:vB f) (ho:okF f.base f.aY):ME [.s f.name,.r f.base,.r (f.aY.map fE)]=some [.r (cD f.base f.aY)]:=by
 obtain⟨b,hb⟩:=dU (okF f.base f.aY);have hv:=V4 hf hb;rw[hb.2 ho]at hv;obtain⟨hr,hl,hp,hw⟩:=hf;have hk:=r5.1 ho.2;refine aH ?_;refine ag hv rfl rfl (uR ?_);refine bj rfl ?_;refine ag (Rx hr hl) rfl rfl (nW ?_);refine aB (fun xs=>xs=[.r (cD f.base f.aY)]) ?_ ?_
 · refine uR ?_;refine wp_loop (I:=fun a=>∃i:Nat,a=[.i i,.r (cD f.base (f.aY.take i))]∧i≤f.aY.length) (mu:=fun a=>match a with|[.i i,_]=>f.aY.length-i.toNat|_=>0) ⟨0,rfl,om⟩ ?_;rintro a ⟨i,rfl,e1⟩;have pM:=ss ho.1 (k:=i) (fun j hj h=>hk j hj om) e1;have rm:bu 1 (cD f.base (f.aY.take i))=true:=tS hr fun w hx=>hw w (mf hx)
   refine uR ?_;refine bc (fun hc=> ?_) (fun hc=> ?_)
   · have hi:i<f.aY.length:=by
       have:(i:Int)< (f.aY.map fE).length:=dG hc;rw[aA]at this;omega
     have oj:=hw _ (b8 hi);have aO:=(hk i hi hi).1;refine aP (f:=fE) (j:=i) rfl rfl hi rfl ?_;have c9:=uZ (b:=f.base) hi;refine uR ?_;refine ag (aAh rm oj aO pM) rfl rfl (nW ?_);refine bg (i:=i) rfl om (nW ?_);refine ad ⟨⟨i+1,?_,om⟩,?_⟩
     · show[L.i (((i+1:Nat):Int)),L.r _]=_;rw[c9]
     · show f.aY.length- (((i+1:Nat):Int)).toNat<f.aY.length-i;omega
   · have hi:i=f.aY.length:=by
       have:¬(i:Int)< (f.aY.map fE).length:=eh hc;rw[aA]at this;omega
     refine ad ?_;show[L.r (cD f.base (f.aY.take i))]=_;rw[hi,ju]
 · rintro _ rfl;have pM:=ss ho.1 hk (cn _);rw[ju]at pM;refine nW ?_;refine ag (adK (tS hr hw) om) rfl rfl (nW ?_);exact ad rfl
theorem adE {f} (hf:vB f) (ho:okF f.base f.aY):IK [.s f.name,.r f.base,.r (f.aY.map fE)]=some [.i (cD f.base f.aY).length]:=by
 obtain⟨hr,hl,hp,hw⟩:=hf;have hk:=r5.1 ho.2;refine aH ?_;refine uR ?_;refine aB (fun xs=>xs=[.i (cD f.base f.aY).length]) ?_ ?_;rotate_left
 · rintro _ rfl;refine nW ?_;exact ad rfl
 refine uR ?_;refine wp_loop (I:=fun a=>∃i:Nat,a=[.i (cD f.base (f.aY.take i)).length,.i i]∧i≤f.aY.length) (mu:=fun a=>match a with|[_,.i i]=>f.aY.length-i.toNat|_=>0) ⟨0,rfl,om⟩ ?_;rintro a ⟨i,rfl,e1⟩;refine uR ?_;refine bc (fun hc=> ?_) (fun hc=> ?_)
 · have hi:i<f.aY.length:=by
     have:(i:Int)< (f.aY.map fE).length:=dG hc;rw[aA]at this;omega
   have oj:=hw _ (b8 hi);have aO:=(hk i hi hi).1;refine aP (f:=fE) (j:=i) rfl rfl hi rfl ?_;have c9:=uZ (b:=f.base) hi;generalize cD f.base (f.aY.take i)=g at c9;have hlen:=MH (b:=g) aO.1;refine uR ?_;refine ag (L0 (n:=g.length) (by have:=aO.1;omega) (by have:=aO.2.1;omega) oj) rfl rfl ?_;rw[←hlen];refine nW ?_;refine bg (i:=i) rfl om (nW ?_);refine ad ⟨⟨i+1,?_,om⟩,?_⟩
   · show[L.i _,L.i (((i+1:Nat):Int))]=_;rw[c9]
   · show f.aY.length- (((i+1:Nat):Int)).toNat<f.aY.length-i;omega
 · have hi:i=f.aY.length:=by
     have:¬(i:Int)< (f.aY.map fE).length:=eh hc;rw[aA]at this;omega
   refine ad ?_;show[L.i (cD f.base (f.aY.take i)).length]=_;rw[hi,ju]
end
end
end Go.Proofs.YtndegphojkiblaaGreatDoor
