/- Towards the last file's theorem: part 38. -/
import Derived.Test.YtndegphojkiblaaGreatDoorG13
import Derived.Test.YtndegphojkiblaaGreatDoorG27
set_option linter.all false
set_option maxHeartbeats 4000000
set_option maxRecDepth 100000
namespace Go.Proofs.YtndegphojkiblaaGreatDoor
noncomputable section
section
open Go.RowKit AI
attribute [local irreducible] ad.wp
theorem T1 {b:By} {w:Wr} (hb:bA 1 b=true) (hw:xA w) (h0:0≤w.off) (h1:w.off≤1048576) (hl:b.length≤4294967296):sd [.r b,.i w.off,.r w.data,.b w.cut]=some [.r (gj b w)]:=by
 have hd:=hw.2;refine a_ ?_;unfold LL;refine uR ?_;refine ee rfl hb oO oO om rfl (nW ?_);refine bg (fun hc=> ?_) (fun hc=> ?_)
 · have hc:w.cut=true:=hc;refine uR ?_;refine GH rfl (uR ?_);refine pz ⟨by exact oO,by exact oO,by exact oO,nT hb⟩ (uR ?_);refine ae ?_;show[L.r _]=_;unfold gj;rw[au hc];congr 2
   try dsimp only[At.ev,d1,d2,d3,d4,d5,d6,d7,d8,d9,e0,List.map,bp,Kd.pv]
   rw[show(((min (b.length:Int) w.off).toNat-Int.toNat 0:Nat):Int).toNat=min b.length w.off.toNat by omega,List.take_eq_take_iff];omega
 have hc:¬w.cut=true:=by rw[show w.cut=false from hc];decide
 refine JF ?_;refine wp_loop (I:=fun a=>∃m:Nat,a=[.r (b++List.replicate m gJ)]∧m≤w.off.toNat-b.length) (mu:=fun a=>match a with|[.r r]=>w.off.toNat-r.length|_=>0) ⟨0,by show[L.r b]=_;simp,om⟩ ?_;rintro a ⟨m,rfl,e1⟩;have hl2:(b++List.replicate m gJ).length=b.length+m:=by simp
 have hR:bA 1 (b++List.replicate m gJ)=true:=Be hb (DE rfl);refine uR ?_;refine bg (fun hc=> ?_) (fun hc=> ?_)
 · have hlt:((b++List.replicate m gJ).length:Int)<w.off:=dz hc;refine uR ?_;refine ee hR rfl oO oO om rfl (nW ?_);refine ae ⟨⟨m+1,?_,om⟩,?_⟩
   · show[L.r _]=_;rw[List.replicate_succ',←e_];rfl
   · show w.off.toNat- ((b++List.replicate m gJ)++_).length<w.off.toNat- (b++List.replicate m gJ).length;rw[dL];show w.off.toNat- ((b++List.replicate m gJ).length+1)<_;omega
 have wy:¬((b++List.replicate m gJ).length:Int)<w.off:=eo hc;have hm:m=w.off.toNat-b.length:=om;refine ae ?_;show ad.wp (ad.op _ _) [.r b,.i w.off,.r w.data,.b w.cut,.r [],.r b,.r (b++List.replicate m gJ)] _;obtain⟨g,hg⟩:∃g,b++List.replicate m gJ=g:=⟨_,rfl⟩
 have Da:gj b w=g.take w.off.toNat++w.data++b.drop (w.off.toNat+w.data.length):=by
   unfold gj;rw[aE (by assumption),←hm,hg]
 have hdr:g.drop (w.off.toNat+w.data.length)=b.drop (w.off.toNat+w.data.length):=by
   rw[←hg,List.drop_append];rw[show(List.replicate m gJ).drop (w.off.toNat+w.data.length-b.length)=[]from uk (by simp;omega),kj]
 rw[hg]at hl2 hR wy;rw[hg];clear hg;refine uR ?_;refine dt (n:=w.off+w.data.length) (by rfl) om om (uR ?_);refine bg (fun hc=> ?_) (fun hc=> ?_)
 · have hgt:(g.length:Int)<w.off+w.data.length:=dz hc;refine uR ?_;refine pz ⟨by exact oO,h0,by exact oO,nT hR⟩ (uR ?_);refine ee (r:=g.take w.off.toNat++w.data) (QF hR) hw.1 oO oO om ?_ ?_
   · try dsimp only[At.ev,d1,d2,d3,d4,d5,d6,d7,d8,d9,e0,List.map,bp,Kd.pv]
     rw[show((w.off.toNat-Int.toNat 0:Nat):Int).toNat=w.off.toNat by omega]
   refine nW ?_;refine ae ?_;show[L.r _]=_;rw[Da,←hdr,uk om,kj]
 · have hle:¬(g.length:Int)<w.off+w.data.length:=eo hc;refine uR ?_;refine pz ⟨h0,by exact oO,by exact oO,nT hR⟩ (nW ?_);refine agz ⟨hw.1,by exact oO⟩ rfl (nW ?_);refine ae ?_;show[L.r _]=_;rw[Da,←hdr];congr 2;(try dsimp only[At.ev,d1,d2,d3,d4,d5,d6,d7,d8,d9,e0,List.map,bp,Kd.pv]);have e:min w.data.length (((w.off+(w.data.length:Int)).toNat-w.off.toNat:Nat):Int).toNat=w.data.length:=om;rw[e,jg]
theorem arx {s:cn} {i:Nat} (h:i<s.size):∃b,s[i]? =some b:=⟨s[i],getElem?_pos s i h⟩
theorem aaE {s:cn} {i:Nat} {b:UInt8} (h:s[i]? =some b):i<s.size:=by
 rcases pX i s.size with h1|h1
 · exact h1
 · rw[getElem?_neg s i (by simpa using h1)]at h;cases h
theorem Jy (s:cn) (hs:s.size≤4611686018427387904) {b:Bool} (hb:b=true ↔ gH s):qk [.s s]=some [.b b]:=by
 refine a_ ?_;unfold I3;refine JF ?_;refine wp_loop (I:=fun a=>∃i:Nat,a=[.i i]∧i≤s.size∧∀(j:Nat) (c:UInt8),j<i→s[j]? =some c→kV c.toNat) (mu:=fun a=>match a with|[.i i]=>s.size-i.toNat|_=>0) ⟨0,rfl,om,fun j c hj=>by omega⟩ ?_;rintro a ⟨i,rfl,e1,e2⟩;refine nW ?_;refine Ao (uR ?_);refine bg (fun hc=> ?_) (fun hc=> ?_)
 · have hi:i<s.size:=by have:(i:Int)<s.size:=dz hc;omega
   obtain⟨c,hcc⟩:=arx hi;refine aCe (b:=c) oO (by simp only[At.ev,d3,d4,d5,d6,e0,gd];exact hcc) (nW ?_);refine aH (cV (¬kV c.toNat)) ?_ ?_
   · repeat' first
       | (refine aP rfl (fun hx=> ?_) (fun hx=> ?_))
       | (refine uT rfl ?_)
     all_goals
       refine ae ?_;show cV (¬kV c.toNat) _
       try dsimp only[At.ev,d1,d2,d3,d4,d5,d6,d7,d8,d9,e0,List.map,bp,Kd.pv]
       first
         |exact sj (P:=¬kV c.toNat) (by unfold kV;omega)
         |exact fG (P:=¬kV c.toNat) (by unfold kV;omega)
         |exact fl (P:=¬kV c.toNat) (by unfold kV;omega)
   · rintro _ ⟨t,rfl,ht⟩;refine nW ?_;refine bg (fun hn=> ?_) (fun hn=> ?_)
     · have eh:=ht.1 hn;refine ae ?_;show[L.b false]=[.b b]
       rw[fF hb fun h=>eh (h.1 i c hcc)]
     · have aIO:kV c.toNat:=gP.1 fun h=>by
         have:=ht.2 h;rw[show t=false from hn]at this;cases this
       refine bP (i:=i) rfl om (nW ?_);refine ae ⟨⟨i+1,?_,om,fun j d hj hd=> ?_⟩,?_⟩
       · rfl
       · by_cases he:j=i
         · subst he;rw[hcc]at hd;cases hd;exact aIO
         · exact e2 j d om hd
       · show s.size- (((i+1:Nat):Int)).toNat<s.size-i;omega
 · have hi:¬i<s.size:=by have:¬(i:Int)<s.size:=eo hc;omega
   refine ae ?_;show ad.wp (ad.join _ _) [.s s] _;refine aH (cV (gH s)) ?_ ?_
   · refine Ao (uR ?_);have hall:∀(j:Nat) (c:UInt8),s[j]? =some c→kV c.toNat:=fun j c hj=>e2 j c (by have:=aaE hj;omega) hj
     refine bg (fun hx=> ?_) (fun hx=> ?_)
     · have hx:(1:Int)≤s.size:=dz hx;refine Ao (uR ?_);refine ae ?_;exact fG (show((s.size:Int)≤40) ↔ gH s from⟨fun h=> ⟨hall,om,om⟩,fun h=>by have:=h.2.2;omega⟩)
     · have hx:¬(1:Int)≤s.size:=eo hx;refine ae (fl fun h=>hx (by have:=h.2.1;omega))
   · rintro _ ⟨t,rfl,ht⟩;refine nW ?_;refine ae ?_;show[L.b t]=[.b b]
     rw[iN.2 (ht.trans hb.symm)]
theorem JJ {α:Type} {p:α→Bool}:∀{l:List α},(∀x∈l.dropWhile p,p x=true)→∀x∈l,p x=true
 |[],_,x,hx=>by cases hx
 |a::l,h,x,hx=>by
  rw[List.dropWhile_cons]at h;split at h
  · rename_i ha;rcases cU.1 hx with rfl|hx
    · exact ha
    · exact JJ h x hx
  · rename_i ha;exact absurd (h a ek) ha
theorem afW {α:Type} {p:α→Bool}:∀{l:List α},(∀x∈l,p x=true)→l.dropWhile p=[]
 |[],_=>rfl
 |a::l,h=>by
  rw[List.dropWhile_cons,au (h a ek)];exact afW fun x hx=>h x (fb _ hx)
theorem auI (l cs:List UInt8):Lib.trimS l cs=[] ↔∀x∈l,cs.contains x=true:=by
 unfold Lib.trimS Lib.trimLeftS Lib.trimRightS;constructor
 · intro h x hx;have h1:∀y∈(l.reverse.dropWhile (cs.contains ·)).reverse,cs.contains y=true:=JJ fun y hy=>by rw[h]at hy;cases hy
   exact JJ (l:=l.reverse) (fun y hy=>h1 y (aiV.2 hy)) x (aiV.2 hx)
 · intro h;rw[show l.reverse.dropWhile (cs.contains ·)=[]from afW fun x hx=>h x (aiV.1 hx)];rfl
def Gr:List UInt8:=[97,98,99,100,101,102,103,104,105,106,107,108,109,110,111,112,113,114,115,116,117,118,119,120,121,122,48,49,50,51,52,53,54,55,56,57,46,45]
theorem auM:∀n:Nat,n<256→(Gr.contains (UInt8.ofNat n)=true ↔ ((97≤n∧n≤122)∨(48≤n∧n≤57)∨n=46∨n=45)):=by decide
theorem chars (s:cn) (i:Nat):s[i]? =s.data.toList[i]?:=by
 have tN:s.data.toList.length=s.size:=SF;rcases pX i s.size with h|h
 · rw[getElem?_pos s i h,bX om];simp[ByteArray.getElem_eq_getElem_data]
 · rw[getElem?_neg s i (by simpa using h),zC om]
theorem HX (s:cn) (hs:s.size≤4611686018427387904) {b:Bool} (hb:b=true ↔ gH s):GA [.s s]=some [.b b]:=by
 have tN:s.data.toList.length=s.size:=SF;have hall:(∀x∈s.data.toList,Gr.contains x=true) ↔∀(i:Nat) (c:UInt8),s[i]? =some c→kV c.toNat:=by
   have hl:∀x:UInt8,Gr.contains x=true ↔ kV x.toNat:=fun x=>by
     have:=auM x.toNat x.toNat_lt
     rwa [UInt8.ofNat_toNat]at this
   constructor
   · exact fun h i c hi=> (hl c).1 (h c (cH ((chars s i).symm.trans hi)))
   · intro h x hx;obtain⟨i,hi⟩:=List.mem_iff_getElem?.1 hx;exact(hl x).2 (h i x ((chars s i).trans hi))
 have aIP:∀l:List UInt8,((⟨l.toArray⟩:cn).toList==(⟨#[]⟩:cn).toList)=true ↔ l=[]:=fun l=>by
   rw[beq_iff_eq,Lib.toList_data,Lib.toList_data]
 refine a_ ?_;unfold Zy;refine aH (cV (gH s)) ?_ ?_
 · refine pd rfl (nW ?_);have hne:((s.toList==(⟨#[]⟩:cn).toList)=true) ↔ s.size=0:=by
     rw[beq_iff_eq,Lib.toList_data,Lib.toList_data,←tN];exact⟨fun h=>by rw[h];rfl,fun h=>iq h⟩
   refine bg (fun hx=> ?_) (fun hx=> ?_)
   · have h1:1≤s.size:=by
       have hx:(!(s.toList==(⟨#[]⟩:cn).toList))=true:=hx;rw[lO]at hx;rcases aiy s.size with h|h
       · rw[hne.2 h]at hx;cases hx
       · exact h
     refine Ao (uR ?_);refine bg (fun hy=> ?_) (fun hy=> ?_)
     · have hy:(s.size:Int)≤40:=dz hy;refine ay (l:=[.s ⟨(Lib.trimS s.data.toList Gr).toArray⟩]) ?_ rfl rfl ?_
       · show Ce [.s s,.s _]=_;exact au ⟨om,dc,dc⟩
       refine nW ?_;refine pd rfl (nW ?_);refine ae ⟨_,rfl,?_⟩;rw[aIP,auI,hall];exact⟨fun h=> ⟨h,om,om⟩,fun h=>h.1⟩
     · have hy:¬(s.size:Int)≤40:=eo hy;exact ae (fl fun h=>hy (by have:=h.2.2;omega))
   · exact ae (fl fun h=>by
       have hx:(!(s.toList==(⟨#[]⟩:cn).toList))=false:=hx;rw[Bool.not_eq_false']at hx;have:=hne.1 hx;have:=h.2.1;omega)
 · rintro _ ⟨t,rfl,ht⟩;refine nW ?_;refine ae ?_;show[L.b t]=[.b b]
   rw[iN.2 (ht.trans hb.symm)]
theorem abb {b:By} {ws:List Wr} {k:Nat} (h:k<ws.length) (hn:¬(okW ws[k]∧(c_ b (ws.take (k+1))).length≤1048576)):¬okF b ws:=fun hf=>hn (qv.1 hf.2 k h h)
theorem aEN {b:By} {w:Wr} (h:okW w) (hl:1048576<w.data.length):1048576< (gj b w).length:=by
 obtain⟨h0,h1,h2⟩:=h;have hc:¬w.cut=true:=fun h=>h2 ⟨h,om⟩
 have:=JV (b:=b) h0;unfold tz at this;rw[aE hc]at this;omega
theorem acF {f:Fl} (hf:wN f) (hs:f.name.size≤4611686018427387904) {b:Bool} (hb:b=true ↔ gH f.name∧okF f.base f.aR):sU [.s f.name,.r f.base,.r (f.aR.map ep)]=some [.b b]:=by
 obtain⟨hr,hl,hp,hw⟩:=hf;obtain⟨bn,gD⟩:=du (gH f.name);refine a_ ?_;unfold PQ;refine aH (cV (¬(gH f.name∧f.base.length≤1048576))) ?_ ?_
 · refine ay (Jy f.name hs gD) rfl rfl (uR ?_);refine bg (fun hx=> ?_) (fun hx=> ?_)
   · have hx:(!bn)=true:=hx;exact ae (cz fun h=>by rw[gD.2 h.1]at hx;cases hx)
   · have hx:(!bn)=false:=hx;have hn:gH f.name:=gD.1 (by simpa using hx);refine uR ?_;exact ae (fG (show(1048576:Int)<f.base.length ↔ _ from⟨fun h1 h2=>by omega,fun h=>Dj fun h1=>h ⟨hn,om⟩⟩))
 rintro _ ⟨t,rfl,ht⟩;refine nW ?_;refine bg (fun hx=> ?_) (fun hx=> ?_)
 · have hx:t=true:=hx;refine ae ?_;show[L.b false]=[.b b]
   rw[fF hb fun h=>ht.1 hx ⟨h.1,h.2.1⟩]
 have hx:t=false:=hx;have hbase:gH f.name∧f.base.length≤1048576:=gP.1 fun h=>by rw[ht.2 h]at hx;cases hx
 refine aH (fun xs=>xs=[]∧b=true) ?_ ?_;rotate_left
 · rintro _ ⟨rfl,h⟩;refine nW ?_;refine ae ?_;show[L.b true]=[.b b]
   rw[h]
 refine wp_loop (I:=fun a=>∃i:Nat,a=[.r (c_ f.base (f.aR.take i)),.i i]∧i≤f.aR.length∧u7 f.base f.aR i) (mu:=fun a=>match a with|[_,.i i]=>f.aR.length-i.toNat|_=>0) ⟨0,rfl,om,ago⟩ ?_;rintro a ⟨i,rfl,e1,e2⟩;have pU:=qC hbase.2 e2 e1;have rN:bA 1 (c_ f.base (f.aR.take i))=true:=uI hr fun w hx=>hw w (hU hx)
 refine uR ?_;refine bg (fun hc=> ?_) (fun hc=> ?_);rotate_left
 · have hi:i=f.aR.length:=by
     have:¬(i:Int)< (f.aR.map ep).length:=eo hc;rw[ax]at this;omega
   refine ae ⟨rfl,hb.2 ⟨hbase.1,hbase.2,qv.2 (by rw[←hi];exact e2)⟩⟩
 have hi:i<f.aR.length:=by
   have:(i:Int)< (f.aR.map ep).length:=dz hc;rw[ax]at this;omega
 have lM:=hw _ (b9 hi);have hno:=abb (b:=f.base) hi;have hstep:=XV hi e2;refine bz (f:=ep) (j:=i) rfl rfl hi rfl ?_;rw[vo hi]at hno hstep;have dI:=vo (b:=f.base) hi;generalize f.aR[i]=w at lM hno hstep dI;generalize hg:c_ f.base (f.aR.take i)=g at pU rN hno hstep dI;refine uR ?_;refine aH (cV (¬okW w∨1048576<w.data.length)) ?_ ?_
 · refine uR ?_;refine bg (fun hy=> ?_) (fun hy=> ?_)
   · have hy:w.off<0:=dz hy;exact ae (cz (.inl fun h=>by have:=h.1;omega))
   have hy:¬w.off<0:=eo hy;refine uR ?_;refine bg (fun hz=> ?_) (fun hz=> ?_)
   · have hz:1048576<w.off:=dz hz;exact ae (cz (.inl fun h=>by have:=h.2.1;omega))
   have hz:¬1048576<w.off:=eo hz;refine bg (fun hu=> ?_) (fun hu=> ?_)
   · have hu:w.cut=true:=hu;refine uR ?_;refine bg (fun hv=> ?_) (fun hv=> ?_)
     · have hv:(0:Int)<w.data.length:=dz hv;exact ae (cz (.inl fun h=>h.2.2 ⟨hu,om⟩))
     · have hv:¬(0:Int)<w.data.length:=eo hv;refine uR ?_;exact ae (fG (show(1048576:Int)<w.data.length ↔ _ from⟨fun h=>by omega,fun h=>by
         rcases h with h|h
         · exact absurd ⟨om,om,fun k=>by omega⟩ h
         · omega⟩))
   · have hu:¬w.cut=true:=by rw[show w.cut=false from hu];decide
     refine uR ?_;exact ae (fG (show(1048576:Int)<w.data.length ↔ _ from⟨fun h=> .inr om,fun h=>by
       rcases h with h|h
       · exact absurd ⟨om,om,fun k=>hu k.1⟩ h
       · omega⟩))
 rintro _ ⟨u,rfl,hu⟩;refine nW ?_;refine bg (fun hy=> ?_) (fun hy=> ?_)
 · have hy:u=true:=hy;refine ae ?_;show[L.b false]=[.b b]
   rw [fF hb fun h=>hno (fun k=>by
     rcases hu.1 hy with q|q
     · exact q k.1
     · have:=aEN (b:=g) k.1 q;omega) h.2]
 have hy:¬(¬okW w∨1048576<w.data.length):=fun h=>by rw[hu.2 h]at hy;cases hy
 have aX:okW w:=gP.1 fun h=>hy (.inl h)
 refine ay (T1 rN lM aX.1 aX.2.1 om) rfl rfl (uR ?_);refine bg (fun hz=> ?_) (fun hz=> ?_)
 · have hz:(1048576:Int)< (gj g w).length:=dz hz;refine ae ?_;show[L.b false]=[.b b]
   rw[fF hb fun h=>hno (fun k=>by omega) h.2]
 · have hz:¬(1048576:Int)< (gj g w).length:=eo hz;refine bP (i:=i) rfl om (nW ?_);refine ae ⟨⟨i+1,?_,om,hstep aX om⟩,?_⟩
   · show[L.r _,L.i (((i+1:Nat):Int))]=_;rw[dI]
   · show f.aR.length- (((i+1:Nat):Int)).toNat<f.aR.length-i;omega
theorem azv:gH ⟨#[120]⟩:=by
 refine⟨fun i b h=> ?_,dc,dc⟩;have:=aaE h;obtain rfl:i=0:=by
  have:i<1:=this;omega
 cases h;exact .inl dc
theorem aji {f:Fl} (hf:wN f) {s:cn}:(okF f.base f.aR→jx [.s s,.r f.base,.r (f.aR.map ep)]=some [.r (c_ f.base f.aR)])∧(¬okF f.base f.aR→jx [.s s,.r f.base,.r (f.aR.map ep)]=some [.r []]):=by
 obtain⟨b,hb⟩:=du (gH ⟨#[120]⟩∧okF f.base f.aR);have hv:=acF (f:=⟨⟨#[120]⟩,f.base,f.aR⟩) hf (by show ByteArray.size ⟨#[120]⟩≤4611686018427387904;decide) hb;constructor
 · intro ho;refine a_ ?_;unfold Jj;refine ay hv rfl rfl (nW ?_);rw[hb.2 ⟨azv,ho⟩];refine uR ?_;refine cW rfl ?_;obtain⟨hr,hl,hp,hw⟩:=hf;have hk:=qv.1 ho.2;refine aH (fun xs=>xs=[.r (c_ f.base f.aR)]) ?_ ?_
   · refine wp_loop (I:=fun a=>∃i:Nat,a=[.r (c_ f.base (f.aR.take i)),.i i]∧i≤f.aR.length) (mu:=fun a=>match a with|[_,.i i]=>f.aR.length-i.toNat|_=>0) ⟨0,rfl,om⟩ ?_;rintro a ⟨i,rfl,e1⟩;have pU:=qC ho.1 (k:=i) (fun j hj h=>hk j hj om) e1;have rN:bA 1 (c_ f.base (f.aR.take i))=true:=uI hr fun w hx=>hw w (hU hx)
     refine uR ?_;refine bg (fun hc=> ?_) (fun hc=> ?_)
     · have hi:i<f.aR.length:=by
         have:(i:Int)< (f.aR.map ep).length:=dz hc;rw[ax]at this;omega
       have lM:=hw _ (b9 hi);have aX:=(hk i hi hi).1;refine bz (f:=ep) (j:=i) rfl rfl hi rfl ?_;have dI:=vo (b:=f.base) hi;generalize f.aR[i]=w at lM aX dI;refine uR ?_;refine ay (T1 rN lM aX.1 aX.2.1 om) rfl rfl (nW ?_);refine bP (i:=i) rfl om (nW ?_);refine ae ⟨⟨i+1,?_,om⟩,?_⟩
       · show[L.r _,L.i (((i+1:Nat):Int))]=_;rw[dI]
       · show f.aR.length- (((i+1:Nat):Int)).toNat<f.aR.length-i;omega
     · have hi:i=f.aR.length:=by
         have:¬(i:Int)< (f.aR.map ep).length:=eo hc;rw[ax]at this;omega
       refine ae ?_;show[L.r (c_ f.base (f.aR.take i))]=_;rw[hi,jg]
   · rintro _ rfl;have pU:=qC ho.1 hk (cT _);rw[jg]at pU;have rN:bA 1 (c_ f.base f.aR)=true:=uI hr hw;refine uR ?_;refine ee rfl rN oO oO om rfl (nW ?_);exact ae rfl
 · intro ho;refine a_ ?_;unfold Jj;refine ay hv rfl rfl (nW ?_);rw[fF hb fun h=>ho h.2];refine uR ?_;refine iz rfl ?_;exact ae rfl
def yn (d:Dk) (i:Nat):Prop:=∀h:i<d.files.length,(gH d.files[i].name∧okF d.files[i].base d.files[i].aR)∧∀h0:0<i,tm d.files[i].name (d.files[i-1]'om).name=false
theorem OL {d:Dk} (hd:rY d) {b:Bool} (hb:b=true ↔ nh d):vO [.i d.cap,.i d.left,.r (d.files.map aY)]=some [.b b]:=by
 refine a_ ?_;unfold MN;refine aH (cV (¬(0≤d.cap∧-1≤d.left∧d.files.length≤256))) ?_ ?_
 · refine uR ?_;refine bg (fun hx=> ?_) (fun hx=> ?_)
   · have hx:d.cap<0:=dz hx;exact ae (cz om)
   have hx:¬d.cap<0:=eo hx;refine uR ?_;refine bg (fun hy=> ?_) (fun hy=> ?_)
   · have hy:d.left< -1:=dz hy;exact ae (cz om)
   have hy:¬d.left< -1:=eo hy;refine uR ?_;exact ae (fG (show(256:Int)< (d.files.map aY).length ↔ _ by rw[ax];omega))
 rintro _ ⟨t,rfl,ht⟩;refine nW ?_;refine bg (fun hx=> ?_) (fun hx=> ?_)
 · refine ae ?_;show[L.b false]=[.b b]
   rw[fF hb fun h=>ht.1 hx h.1]
 have hx:t=false:=hx;have iL:0≤d.cap∧-1≤d.left∧d.files.length≤256:=gP.1 fun h=>by rw[ht.2 h]at hx;cases hx
 refine aH (fun xs=>xs=[]∧b=true) ?_ ?_;rotate_left
 · rintro _ ⟨rfl,h⟩;refine nW ?_;refine ae ?_;show[L.b true]=[.b b]
   rw[h]
 refine wp_loop (I:=fun a=>∃i:Nat,a=[.i i]∧i≤d.files.length∧∀j,j<i→yn d j) (mu:=fun a=>match a with|[.i i]=>d.files.length-i.toNat|_=>0) ⟨0,rfl,om,fun j hj=>by omega⟩ ?_;rintro a ⟨i,rfl,e1,e2⟩;refine uR ?_;refine bg (fun hc=> ?_) (fun hc=> ?_);rotate_left
 · have hi:i=d.files.length:=by
     have:¬(i:Int)< (d.files.map aY).length:=eo hc;rw[ax]at this;omega
   exact ae ⟨rfl,hb.2 ⟨iL,fun j hj=>e2 j om hj⟩⟩
 have hi:i<d.files.length:=by
   have:(i:Int)< (d.files.map aY).length:=dz hc;rw[ax]at this;omega
 have iM:=hd.2 _ (b9 hi);refine aH (cV (¬yn d i)) ?_ ?_;rotate_left
 · rintro _ ⟨u,rfl,hu⟩;refine nW ?_;refine bg (fun hy=> ?_) (fun hy=> ?_)
   · refine ae ?_;show[L.b false]=[.b b]
     rw[fF hb fun h=>hu.1 hy (h.2 i)]
   have hy:u=false:=hy;have hg:yn d i:=gP.1 fun h=>by rw[hu.2 h]at hy;cases hy
   refine bP (i:=i) rfl om (nW ?_);refine ae ⟨⟨i+1,?_,om,fun j hj=> ?_⟩,?_⟩
   · rfl
   · by_cases he:j=i
     · subst he;exact hg
     · exact e2 j om
   · show d.files.length- (((i+1:Nat):Int)).toNat<d.files.length-i;omega
 refine bz (f:=aY) (j:=i) rfl rfl hi rfl (uR ?_);obtain⟨bf,pT⟩:=du (gH d.files[i].name∧okF d.files[i].base d.files[i].aR);refine ay (acF iM.1 iM.2 pT) rfl rfl (uR ?_);refine bg (fun hy=> ?_) (fun hy=> ?_)
 · have hy:(!bf)=true:=hy;exact ae (cz fun h=>by rw[pT.2 (h hi).1]at hy;cases hy)
 have hy:(!bf)=false:=hy;have aX:=pT.1 (by simpa using hy);refine uR ?_;refine bg (fun hz=> ?_) (fun hz=> ?_)
 · have h0:0<i:=by have:(0:Int)<i:=dz hz;omega
   refine bz (f:=aY) (j:=i) rfl rfl hi rfl (uR ?_);refine gY (n:=((i-1:Nat):Int)) oO om om (nW ?_);refine bz (f:=aY) (j:=i-1) rfl rfl om rfl (uR ?_);refine pd rfl (nW ?_);refine ae ⟨tm d.files[i].name (d.files[i-1]'om).name,rfl,?_⟩;constructor
   · intro h k;have:=(k hi).2 h0;rw[h]at this;cases this
   · intro h;rcases aiW (tm d.files[i].name (d.files[i-1]'om).name)with q|q
     · exact q
     · exact absurd (fun _=> ⟨aX,fun _=>q⟩) h
 · have h0:¬0<i:=by have:¬(0:Int)<i:=eo hz;omega
   exact ae (fl fun h=>h fun _=> ⟨aX,fun k=>absurd k h0⟩)
theorem aej {d:Dk} {s:cn} (hl:d.files.length≤4294967296) {r:Int} (hr:∀i,iv d s i→r=i) (hn:nt d s→r= -1):sq [.i d.cap,.i d.left,.r (d.files.map aY),.s s]=some [.i r]:=by
 refine a_ ?_;unfold Km;refine aH (fun xs=>xs=[]∧nt d s) ?_ ?_;rotate_left
 · rintro _ ⟨rfl,h⟩;refine nW ?_;refine ae ?_;show[L.i (-1)]=[.i r]
   rw[hn h]
 refine wp_loop (I:=fun a=>∃i:Nat,a=[.i i]∧i≤d.files.length∧∀(j:Nat) (h:j<d.files.length),j<i→(d.files[j].name.toList==s.toList)=false) (mu:=fun a=>match a with|[.i i]=>d.files.length-i.toNat|_=>0) ⟨0,rfl,om,fun j _ hj=>by omega⟩ ?_;rintro a ⟨i,rfl,e1,e2⟩;refine uR ?_;refine bg (fun hc=> ?_) (fun hc=> ?_);rotate_left
 · have hi:i=d.files.length:=by
     have:¬(i:Int)< (d.files.map aY).length:=eo hc;rw[ax]at this;omega
   exact ae ⟨rfl,fun j hj=>e2 j hj om⟩
 have hi:i<d.files.length:=by
   have:(i:Int)< (d.files.map aY).length:=dz hc;rw[ax]at this;omega
 refine bz (f:=aY) (j:=i) rfl rfl hi rfl (uR ?_);refine pd rfl (nW ?_);refine bg (fun hy=> ?_) (fun hy=> ?_)
 · refine ae ?_;show[L.i i]=[.i r]
   rw[hr i ⟨hi,hy,fun j hj=>e2 j om hj⟩]
 · refine bP (i:=i) rfl om (nW ?_);refine ae ⟨⟨i+1,?_,om,fun j hj wh=> ?_⟩,?_⟩
   · rfl
   · by_cases he:j=i
     · subst he;exact hy
     · exact e2 j hj om
   · show d.files.length- (((i+1:Nat):Int)).toNat<d.files.length-i;omega
def Rd (d:Dk) (s:cn):Prop:=nh d∧gH s∧d.left≠0
theorem arD {d:Dk} (hd:rY d) {s:cn} (hs:s.size≤4611686018427387904):∃e:Int,x6 [.i d.cap,.i d.left,.r (d.files.map aY),.s s]=some [.i e]∧(e=0 ↔ Rd d s):=by
 obtain⟨bd,iL⟩:=du (nh d);obtain⟨bn,gD⟩:=du (gH s)
 suffices h:Fo M5 [.i d.cap,.i d.left,.r (d.files.map aY),.s s]=some [.i (if bd=false∨bn=false then 1 else if d.left=0 then 13 else 0)]by
   refine⟨_,h,?_⟩;unfold Rd;rw[←iL,←gD];cases bd<;>cases bn<;>simp
 refine a_ ?_;unfold M5;refine aH (cV (bd=false∨bn=false)) ?_ ?_
 · refine ay (OL hd iL) rfl rfl (uR ?_);refine bg (fun hx=> ?_) (fun hx=> ?_)
   · have hx:(!bd)=true:=hx;exact ae (cz (.inl (by simpa using hx)))
   · have hx:(!bd)=false:=hx;refine ay (Jy s hs gD) rfl rfl (uR ?_);refine ae ⟨_,rfl,?_⟩;show(!bn)=true ↔ _;cases bd<;>simp_all
 rintro _ ⟨t,rfl,ht⟩;refine nW ?_;refine bg (fun hx=> ?_) (fun hx=> ?_)
 · refine ae ?_;show[L.i 1]=_;rw[au (ht.1 hx)]
 have hx:t=false:=hx;have hno:¬(bd=false∨bn=false):=fun h=>by rw[ht.2 h]at hx;cases hx
 refine uR ?_;refine bg (fun hy=> ?_) (fun hy=> ?_)
 · refine ae ?_;show[L.i 13]=_;rw[aE hno,au (dz hy)]
 · refine ae ?_;show[L.i 0]=_;rw[aE hno,aE (eo hy)]
theorem Am (d:Dk) (s:cn):nt d s∨∃i,iv d s i:=by
 have : ∀n,n≤d.files.length→(∀(j:Nat) (h:j<d.files.length),j<n→(d.files[j].name.toList==s.toList)=false)∨∃i,iv d s i:=fun n=>by
   induction n with
   |zero=>exact fun _=> .inl fun j _ hj=>om
   |succ n ih=>
    intro hn;rcases ih om with h|h
    · rcases aiW (d.files[n].name.toList==s.toList)with q|q
      · exact .inr ⟨n,om,q,fun j hj=>h j om hj⟩
      · refine .inl fun j hj hjn=> ?_
        by_cases he:j=n
        · subst he;exact q
        · exact h j hj om
    · exact .inr h
 rcases this _ (cT _)with h|h
 · exact .inl fun j hj=>h j hj hj
 · exact .inr h
theorem iv.uniq {d:Dk} {s:cn} {i j:Nat} (hi:iv d s i) (hj:iv d s j):i=j:=by
 obtain⟨a1,a2,a3⟩:=hi;obtain⟨b1,b2,b3⟩:=hj;rcases IN i j with h|h|h
 · rw[b3 i h]at a2;cases a2
 · exact h
 · rw[a3 j h]at b2;cases b2
theorem aae {d:Dk} (hd:rY d) {s:cn} (hs:s.size≤4611686018427387904):
   (∀i,Rd d s→iv d s i→jF [.i d.cap,.i d.left,.r (d.files.map aY),.s s]=some [.i i,.i 0])∧(¬(Rd d s∧∃i,iv d s i)→∃e:Int,e≠0∧jF [.i d.cap,.i d.left,.r (d.files.map aY),.s s]=some [.i (-1),.i e]):=by
 obtain⟨e,he,hr⟩:=arD hd hs;obtain⟨r,hr1,hr2⟩:∃r:Int,(∀i,iv d s i→r=i)∧(nt d s→r= -1):=by
   rcases Am d s with h| ⟨i,h⟩
   · exact⟨-1,⟨fun i hi=> (by obtain⟨a1,a2,_⟩:=hi;rw[h i a1]at a2;cases a2),fun _=>rfl⟩⟩
   · exact⟨i,⟨fun j hj=> (by rw[h.uniq hj]),fun hn=> (by obtain⟨a1,a2,_⟩:=h;rw[hn i a1]at a2;cases a2)⟩⟩
 have hf:=aej (s:=s) hd.1 hr1 hr2;constructor
 · intro i lN hi;refine a_ ?_;unfold z_;refine ay he rfl rfl (uR ?_);refine cJ rfl (fun h=>h (hr.2 lN)) ?_;refine ay hf rfl rfl (nW ?_);have:=hr1 i hi;subst this;refine uR ?_;refine cJ rfl oO ?_;refine ae ?_;show[L.i _,L.i 0]=_;rfl
 · intro hno;by_cases lN:Rd d s
   · have hn:nt d s:=(Am d s).resolve_right fun h=>hno ⟨lN,h⟩
     refine⟨6,dc,?_⟩;refine a_ ?_;unfold z_;refine ay he rfl rfl (uR ?_);refine cJ rfl (fun h=>h (hr.2 lN)) ?_;refine ay hf rfl rfl (nW ?_);rw[hr2 hn];refine uR ?_;refine iz rfl ?_;exact ae rfl
   · refine⟨e,fun h=>lN (hr.1 h),?_⟩;refine a_ ?_;unfold z_;refine ay he rfl rfl (uR ?_);refine iy rfl (fun h=>lN (hr.1 h)) ?_;exact ae rfl
theorem abq {d:Dk} (hd:rY d) {s:cn} (hs:s.size≤4611686018427387904):
   (∀c,Wh d s c→pj [.i d.cap,.i d.left,.r (d.files.map aY),.s s]=some [.r c,.i 0])∧((∀c,¬Wh d s c)→∃e:Int,e≠0∧pj [.i d.cap,.i d.left,.r (d.files.map aY),.s s]=some [.r [],.i e]):=by
 obtain⟨yes,no⟩:=aae hd hs;constructor
 · rintro c ⟨h1,h2,h3,i,hi,rfl⟩;have hat:=yes i ⟨h1,h2,h3⟩ hi;have hlt:=hi.1;have iM:=hd.2 _ (b9 hlt);have aX:=(h1.2 i hlt).1.2;have hc:=(aji iM.1 (s:=d.files[i].name)).1 aX;have hlen:=qC aX.1 (qv.1 aX.2) (cT _);rw[jg]at hlen;have tW:=uI iM.1.1 iM.1.2.2.2;have St:yE [.i d.cap,.i d.left,.r (d.files.map aY),.s s]=some [.i (c_ d.files[i].base d.files[i].aR).length,.i 0]:=by
    refine a_ ?_;unfold ME;refine ay hat rfl rfl (uR ?_);refine cW rfl ?_;refine bz (f:=aY) (j:=i) rfl rfl hlt rfl (uR ?_);refine ay hc rfl rfl (uR ?_);exact ae rfl
   have aIQ:Cq [.i d.cap,.i d.left,.r (d.files.map aY),.s s,.i 0,.i (c_ d.files[i].base d.files[i].aR).length]=some [.r (c_ d.files[i].base d.files[i].aR),.i 0]:=by
    refine a_ ?_;unfold ZM;refine ay hat rfl rfl (uR ?_);refine cW rfl ?_;refine bz (f:=aY) (j:=i) rfl rfl hlt rfl (uR ?_);refine ay hc rfl rfl (nW ?_);generalize c_ d.files[i].base d.files[i].aR=g at hlen tW;refine aH (fun xs=>xs=[.b false]) ?_ ?_
    · refine uR ?_;refine cW rfl (uR ?_);refine cJ rfl oO (uR ?_);refine cJ rfl oO (uR ?_);refine gY (n:=(g.length:Int)) oO om om (uR ?_);exact ae (dF om)
    · rintro _ rfl;refine nW ?_;refine cW rfl ?_;refine dt (n:=(g.length:Int)) oO om om (uR ?_);refine pz ⟨by exact oO,by exact oO,by exact oO,nT tW⟩ (uR ?_);refine ae ?_;show[L.r _,L.i 0]=_;congr 2;(try dsimp only[At.ev,d1,d2,d3,d4,d5,d6,d7,d8,d9,e0,List.map,bp,Kd.pv]);rw[show((((g.length:Int).toNat-Int.toNat 0:Nat):Int)).toNat=g.length by omega,zG,rW,jg]
   refine a_ ?_;unfold Mm;refine ay St rfl rfl (uR ?_);refine cW rfl ?_;refine ay aIQ rfl rfl (nW ?_);exact ae rfl
 · intro hno;obtain⟨e,he,hat⟩:=no (fun ⟨h,i,hi⟩=>hno _ ⟨h.1,h.2.1,h.2.2,i,hi,rfl⟩);refine⟨e,he,?_⟩;have St:yE [.i d.cap,.i d.left,.r (d.files.map aY),.s s]=some [.i 0,.i e]:=by
    refine a_ ?_;unfold ME;refine ay hat rfl rfl (uR ?_);refine iy rfl he ?_;exact ae rfl
   refine a_ ?_;unfold Mm;refine ay St rfl rfl (uR ?_);refine iy rfl he ?_;exact ae rfl
theorem Ky {w:Wr} {n:Int} (h0: -4611686018427387904≤w.off) (h1:w.off≤4611686018427387904) (hw:xA w):BS [.i w.off,.r w.data,.b w.cut,.i n]=some [.i (tz n w)]:=by
 have hd:=hw.2;refine a_ ?_;unfold Tt;refine bg (fun hc=> ?_) (fun hc=> ?_)
 · refine GH rfl (nW ?_);refine ae ?_;show[L.i (min n w.off)]=_;unfold tz;rw[au (show w.cut=true from hc)]
 · refine uR ?_;refine dt (n:=w.off+w.data.length) (by rfl) om om (nW ?_);refine QP rfl (nW ?_);refine ae ?_;show[L.i (max n (w.off+w.data.length))]=_;unfold tz;rw[aE (by rw[show w.cut=false from hc];decide)]
theorem XY {f:Fl} (hf:wN f) {b:Bool} (hb:b=true ↔ okF f.base f.aR):Ft [.s f.name,.r f.base,.r (f.aR.map ep)]=some [.b b]:=by
 obtain⟨hr,hl,hp,hw⟩:=hf;refine a_ ?_;unfold U_;refine uR ?_;refine bg (fun hx=> ?_) (fun hx=> ?_)
 · have hx:(1048576:Int)<f.base.length:=dz hx;refine ae ?_;show[L.b false]=[.b b]
   rw[fF hb fun h=>by have:=h.1;omega]
 have hx:¬(1048576:Int)<f.base.length:=eo hx;have hbase:f.base.length≤1048576:=om;refine aH (fun xs=>xs=[]∧b=true) ?_ ?_;rotate_left
 · rintro _ ⟨rfl,h⟩;refine nW ?_;refine ae ?_;show[L.b true]=[.b b]
   rw[h]
 refine uR ?_;refine wp_loop (I:=fun a=>∃i:Nat,a=[.i (c_ f.base (f.aR.take i)).length,.i i]∧i≤f.aR.length∧u7 f.base f.aR i) (mu:=fun a=>match a with|[_,.i i]=>f.aR.length-i.toNat|_=>0) ⟨0,rfl,om,ago⟩ ?_;rintro a ⟨i,rfl,e1,e2⟩;have pU:=qC hbase e2 e1;refine uR ?_;refine bg (fun hc=> ?_) (fun hc=> ?_);rotate_left
 · have hi:i=f.aR.length:=by
     have:¬(i:Int)< (f.aR.map ep).length:=eo hc;rw[ax]at this;omega
   exact ae ⟨rfl,hb.2 ⟨hbase,qv.2 (by rw[←hi];exact e2)⟩⟩
 have hi:i<f.aR.length:=by
   have:(i:Int)< (f.aR.map ep).length:=dz hc;rw[ax]at this;omega
 have lM:=hw _ (b9 hi);have hno:=abb (b:=f.base) hi;have hstep:=XV hi e2;refine bz (f:=ep) (j:=i) rfl rfl hi rfl ?_;rw[vo hi]at hno hstep;have dI:=vo (b:=f.base) hi;generalize f.aR[i]=w at lM hno hstep dI;generalize hg:c_ f.base (f.aR.take i)=g at pU hno hstep dI;refine uR ?_;refine aH (cV (¬okW w)) ?_ ?_
 · refine uR ?_;refine bg (fun hy=> ?_) (fun hy=> ?_)
   · have hy:w.off<0:=dz hy;exact ae (cz (fun h=>by have:=h.1;omega))
   have hy:¬w.off<0:=eo hy;refine uR ?_;refine bg (fun hz=> ?_) (fun hz=> ?_)
   · have hz:1048576<w.off:=dz hz;exact ae (cz (fun h=>by have:=h.2.1;omega))
   have hz:¬1048576<w.off:=eo hz;refine bg (fun hu=> ?_) (fun hu=> ?_)
   · have hu:w.cut=true:=hu;refine uR ?_;exact ae (fG (show(0:Int)<w.data.length ↔ _ from⟨fun h k=>k.2.2 ⟨hu,om⟩,fun h=>Dj fun k=>h ⟨om,om,fun q=>k (by have:=q.2;omega)⟩⟩))
   · have hu:¬w.cut=true:=by rw[show w.cut=false from hu];decide
     exact ae (fl fun h=>h ⟨om,om,fun k=>hu k.1⟩)
 rintro _ ⟨u,rfl,hu⟩;refine nW ?_;refine bg (fun hy=> ?_) (fun hy=> ?_)
 · have hy:u=true:=hy;refine ae ?_;show[L.b false]=[.b b]
   rw[fF hb fun h=>hno (fun k=>hu.1 hy k.1) h]
 have aX:okW w:=gP.1 fun h=>by
   have hy:u=false:=hy;rw[hu.2 h]at hy;cases hy
 have hlen:=JV (b:=g) aX.1;refine ay (Ky (n:=g.length) (by have:=aX.1;omega) (by have:=aX.2.1;omega) lM) rfl rfl ?_;rw[←hlen];refine uR ?_;refine bg (fun hz=> ?_) (fun hz=> ?_)
 · have hz:(1048576:Int)< (gj g w).length:=dz hz;refine ae ?_;show[L.b false]=[.b b]
   rw[fF hb fun h=>hno (fun k=>by omega) h]
 · have hz:¬(1048576:Int)< (gj g w).length:=eo hz;refine bP (i:=i) rfl om (nW ?_);refine ae ⟨⟨i+1,?_,om,hstep aX om⟩,?_⟩
   · show[L.i _,L.i (((i+1:Nat):Int))]=_;rw[dI]
   · show f.aR.length- (((i+1:Nat):Int)).toNat<f.aR.length-i;omega
theorem alq {b:By} {w:Wr} (hb:bA 1 b=true) (hw:xA w) (aX:okW w) (hl:b.length≤1048576):Qo [.i w.off,.r w.data,.b w.cut,.r b]=some [.r (gj b w)]:=by
 obtain⟨h0,h1,h2⟩:=aX;have hd:=hw.2;refine a_ ?_;unfold Wn;refine bg (fun hc=> ?_) (fun hc=> ?_)
 · have hc:w.cut=true:=hc;refine uR ?_;refine QP (n:=w.off) oO (nW ?_);refine GH rfl (uR ?_);refine pz ⟨by exact oO,by exact oO,by exact oO,nT hb⟩ (uR ?_);refine ae ?_;show[L.r _]=_;unfold gj;rw[au hc];congr 2;(try dsimp only[At.ev,d1,d2,d3,d4,d5,d6,d7,d8,d9,e0,List.map,bp,Kd.pv]);rw[show(((min (b.length:Int) w.off).toNat-Int.toNat 0:Nat):Int).toNat=min b.length w.off.toNat by omega,List.take_eq_take_iff];omega
 have hc:¬w.cut=true:=by rw[show w.cut=false from hc];decide
 have hgr:tz b.length w=max (b.length:Int) (w.off+w.data.length):=by unfold tz;rw[aE hc]
 refine aH (fun xs=>xs=[.r (b++List.replicate (w.off.toNat+w.data.length-b.length) gJ)]) ?_ ?_
 · refine uR ?_;refine ay (Ky (n:=b.length) om om hw) rfl rfl ?_;rw[hgr];refine uR ?_;refine bg (fun hx=> ?_) (fun hx=> ?_)
   · have hx:(b.length:Int)<max (b.length:Int) (w.off+w.data.length):=dz hx;have e:max (b.length:Int) (w.off+w.data.length) -b.length=((w.off.toNat+w.data.length-b.length:Nat):Int):=om;have aIR:w.off.toNat+w.data.length-b.length≤8589934592:=om;have df:0<w.off.toNat+w.data.length-b.length:=om;refine uR ?_;refine gY (n:=((w.off.toNat+w.data.length-b.length:Nat):Int)) e om om (nW ?_);generalize w.off.toNat+w.data.length-b.length=m at aIR df;refine pB (r:=List.replicate m gJ) ⟨by exact oO,by exact oO,by exact oO⟩ rfl (nW ?_);refine oe (r:=gJ) oO (by simp only[At.ev,d3,d4,d5,d6,d8];rw[zG,aiF,au df]) rfl ?_;refine nW ?_;refine ee hb (DE rfl) oO oO om rfl (nW ?_);exact ae rfl
   · have hx:¬(b.length:Int)<max (b.length:Int) (w.off+w.data.length):=eo hx;refine ae ?_;show[L.r b]=_;rw[show w.off.toNat+w.data.length-b.length=0 by omega];simp
 rintro _ rfl;obtain⟨m,hm⟩:∃m,m=w.off.toNat+w.data.length-b.length:=⟨_,rfl⟩
 rw[←hm];have rL:(b++List.replicate m gJ).length=b.length+m:=by simp
 have hR:bA 1 (b++List.replicate m gJ)=true:=Be hb (DE rfl);have Da:gj b w=(b++List.replicate m gJ).take w.off.toNat++w.data++(b++List.replicate m gJ).drop (w.off.toNat+w.data.length):=by
   unfold gj;rw[aE hc];congr 1
   · congr 1;rw[List.take_append,List.take_append,List.take_replicate,List.take_replicate];congr 2;omega
   · rw[List.drop_append,show(List.replicate m gJ).drop (w.off.toNat+w.data.length-b.length)=[]from uk (by simp;omega),kj]
 generalize b++List.replicate m gJ=g at rL hR Da;refine uR ?_;refine pz ⟨h0,by exact oO,by exact oO,nT hR⟩ (nW ?_);refine agz ⟨hw.1,by exact oO⟩ rfl (nW ?_);refine ae ?_;show[L.r _]=_;rw[Da];congr 2;(try dsimp only[At.ev,d1,d2,d3,d4,d5,d6,d7,d8,d9,e0,List.map,bp,Kd.pv]);have e:min w.data.length (((g.length:Int).toNat-w.off.toNat:Nat):Int).toNat=w.data.length:=om;rw[e,jg]
theorem atF {b:By} (hb:bA 1 b=true) (hl:b.length≤4294967296):Nb [.r b]=some [.r b]:=by
 refine a_ ?_;unfold acC;refine uR ?_;refine AH (r:=[]) ⟨by exact oO,by exact oO,by exact oO,hb⟩ (by simp only[At.ev,d3,d4,d5,d6,d8];rw[uk (by simp)]) (nW ?_);refine AH (r:=b) ⟨by exact oO,by exact oO,by exact oO,hb⟩ (by simp only[At.ev,d3,d4,d5,d6,d8];rw[zG,rW,gd,jg]) (nW ?_);exact ae rfl
theorem Ut {b:By} (hb:bA 1 b=true) (hl:b.length≤4294967296):yM [.r b]=some []:=au ⟨hb,om⟩
theorem aAK {f:Fl} (hf:wN f) (ho:okF f.base f.aR):Ou [.s f.name,.r f.base,.r (f.aR.map ep)]=some [.r (c_ f.base f.aR)]:=by
 obtain⟨b,hb⟩:=du (okF f.base f.aR);have hv:=XY hf hb;rw[hb.2 ho]at hv;obtain⟨hr,hl,hp,hw⟩:=hf;have hk:=qv.1 ho.2;refine a_ ?_;unfold ZB;refine ay hv rfl rfl (uR ?_);refine cW rfl ?_;refine ay (Ut hr hl) rfl rfl (nW ?_);refine aH (fun xs=>xs=[.r (c_ f.base f.aR)]) ?_ ?_
 · refine uR ?_;refine wp_loop (I:=fun a=>∃i:Nat,a=[.i i,.r (c_ f.base (f.aR.take i))]∧i≤f.aR.length) (mu:=fun a=>match a with|[.i i,_]=>f.aR.length-i.toNat|_=>0) ⟨0,rfl,om⟩ ?_;rintro a ⟨i,rfl,e1⟩;have pU:=qC ho.1 (k:=i) (fun j hj h=>hk j hj om) e1;have rN:bA 1 (c_ f.base (f.aR.take i))=true:=uI hr fun w hx=>hw w (hU hx)
   refine uR ?_;refine bg (fun hc=> ?_) (fun hc=> ?_)
   · have hi:i<f.aR.length:=by
       have:(i:Int)< (f.aR.map ep).length:=dz hc;rw[ax]at this;omega
     have lM:=hw _ (b9 hi);have aX:=(hk i hi hi).1;refine bz (f:=ep) (j:=i) rfl rfl hi rfl ?_;have dI:=vo (b:=f.base) hi;generalize f.aR[i]=w at lM aX dI;refine uR ?_;refine ay (alq rN lM aX pU) rfl rfl (nW ?_);refine bP (i:=i) rfl om (nW ?_);refine ae ⟨⟨i+1,?_,om⟩,?_⟩
     · show[L.i (((i+1:Nat):Int)),L.r _]=_;rw[dI]
     · show f.aR.length- (((i+1:Nat):Int)).toNat<f.aR.length-i;omega
   · have hi:i=f.aR.length:=by
       have:¬(i:Int)< (f.aR.map ep).length:=eo hc;rw[ax]at this;omega
     refine ae ?_;show[L.r (c_ f.base (f.aR.take i))]=_;rw[hi,jg]
 · rintro _ rfl;have pU:=qC ho.1 hk (cT _);rw[jg]at pU;refine nW ?_;refine ay (atF (uI hr hw) om) rfl rfl (nW ?_);exact ae rfl
theorem arq {f:Fl} (hf:wN f) (ho:okF f.base f.aR):Ps [.s f.name,.r f.base,.r (f.aR.map ep)]=some [.i (c_ f.base f.aR).length]:=by
 obtain⟨hr,hl,hp,hw⟩:=hf;have hk:=qv.1 ho.2;refine a_ ?_;unfold XT;refine uR ?_;refine aH (fun xs=>xs=[.i (c_ f.base f.aR).length]) ?_ ?_;rotate_left
 · rintro _ rfl;refine nW ?_;exact ae rfl
 refine uR ?_;refine wp_loop (I:=fun a=>∃i:Nat,a=[.i (c_ f.base (f.aR.take i)).length,.i i]∧i≤f.aR.length) (mu:=fun a=>match a with|[_,.i i]=>f.aR.length-i.toNat|_=>0) ⟨0,rfl,om⟩ ?_;rintro a ⟨i,rfl,e1⟩;refine uR ?_;refine bg (fun hc=> ?_) (fun hc=> ?_)
 · have hi:i<f.aR.length:=by
     have:(i:Int)< (f.aR.map ep).length:=dz hc;rw[ax]at this;omega
   have lM:=hw _ (b9 hi);have aX:=(hk i hi hi).1;refine bz (f:=ep) (j:=i) rfl rfl hi rfl ?_;have dI:=vo (b:=f.base) hi;generalize f.aR[i]=w at lM aX dI;generalize c_ f.base (f.aR.take i)=g at dI;have hlen:=JV (b:=g) aX.1;refine uR ?_;refine ay (Ky (n:=g.length) (by have:=aX.1;omega) (by have:=aX.2.1;omega) lM) rfl rfl ?_;rw[←hlen];refine nW ?_;refine bP (i:=i) rfl om (nW ?_);refine ae ⟨⟨i+1,?_,om⟩,?_⟩
   · show[L.i _,L.i (((i+1:Nat):Int))]=_;rw[dI]
   · show f.aR.length- (((i+1:Nat):Int)).toNat<f.aR.length-i;omega
 · have hi:i=f.aR.length:=by
     have:¬(i:Int)< (f.aR.map ep).length:=eo hc;rw[ax]at this;omega
   refine ae ?_;show[L.i (c_ f.base (f.aR.take i)).length]=_;rw[hi,jg]
theorem Gc {d:Dk} (hd:rY d) {b:Bool} (hb:b=true ↔ nh d):Je [.i d.cap,.i d.left,.r (d.files.map aY)]=some [.b b]:=by
 refine a_ ?_;unfold WB;refine aH (cV (¬(0≤d.cap∧-1≤d.left∧d.files.length≤256))) ?_ ?_
 · refine uR ?_;refine bg (fun hx=> ?_) (fun hx=> ?_)
   · have hx:d.cap<0:=dz hx;exact ae (cz om)
   have hx:¬d.cap<0:=eo hx;refine uR ?_;refine bg (fun hy=> ?_) (fun hy=> ?_)
   · have hy:d.left< -1:=dz hy;exact ae (cz om)
   have hy:¬d.left< -1:=eo hy;refine uR ?_;exact ae (fG (show(256:Int)< (d.files.map aY).length ↔ _ by rw[ax];omega))
 rintro _ ⟨t,rfl,ht⟩;refine nW ?_;refine bg (fun hx=> ?_) (fun hx=> ?_)
 · refine ae ?_;show[L.b false]=[.b b]
   rw[fF hb fun h=>ht.1 hx h.1]
 have hx:t=false:=hx;have iL:0≤d.cap∧-1≤d.left∧d.files.length≤256:=gP.1 fun h=>by rw[ht.2 h]at hx;cases hx
 refine aH (fun xs=>xs=[]∧b=true) ?_ ?_;rotate_left
 · rintro _ ⟨rfl,h⟩;refine nW ?_;refine ae ?_;show[L.b true]=[.b b]
   rw[h]
 refine uR ?_;refine wp_loop (I:=fun a=>∃i:Nat,a=[.i i]∧i≤d.files.length∧∀j,j<i→yn d j) (mu:=fun a=>match a with|[.i i]=>d.files.length-i.toNat|_=>0) ⟨0,rfl,om,fun j hj=>by omega⟩ ?_;rintro a ⟨i,rfl,e1,e2⟩;refine uR ?_;refine bg (fun hc=> ?_) (fun hc=> ?_);rotate_left
 · have hi:i=d.files.length:=by
     have:¬(i:Int)< (d.files.map aY).length:=eo hc;rw[ax]at this;omega
   exact ae ⟨rfl,hb.2 ⟨iL,fun j hj=>e2 j om hj⟩⟩
 have hi:i<d.files.length:=by
   have:(i:Int)< (d.files.map aY).length:=dz hc;rw[ax]at this;omega
 have iM:=hd.2 _ (b9 hi);refine bz (f:=aY) (j:=i) rfl rfl hi rfl (uR ?_);refine aH (cV (¬yn d i)) ?_ ?_;rotate_left
 · rintro _ ⟨u,rfl,hu⟩;refine nW ?_;refine bg (fun hy=> ?_) (fun hy=> ?_)
   · refine ae ?_;show[L.b false]=[.b b]
     rw[fF hb fun h=>hu.1 hy (h.2 i)]
   have hy:u=false:=hy;have hg:yn d i:=gP.1 fun h=>by rw[hu.2 h]at hy;cases hy
   refine bP (i:=i) rfl om (nW ?_);refine ae ⟨⟨i+1,?_,om,fun j hj=> ?_⟩,?_⟩
   · rfl
   · by_cases he:j=i
     · subst he;exact hg
     · exact e2 j om
   · show d.files.length- (((i+1:Nat):Int)).toNat<d.files.length-i;omega
 obtain⟨bn,gD⟩:=du (gH d.files[i].name);obtain⟨bf,pT⟩:=du (okF d.files[i].base d.files[i].aR);refine ay (HX _ iM.2 gD) rfl rfl (uR ?_);refine bg (fun hy=> ?_) (fun hy=> ?_)
 · have hy:(!bn)=true:=hy;exact ae (cz fun h=>by rw[gD.2 (h hi).1.1]at hy;cases hy)
 have hy:(!bn)=false:=hy;have hn:=gD.1 (by simpa using hy);refine ay (XY iM.1 pT) rfl rfl (uR ?_);refine bg (fun hu=> ?_) (fun hu=> ?_)
 · have hu:(!bf)=true:=hu;exact ae (cz fun h=>by rw[pT.2 (h hi).1.2]at hu;cases hu)
 have hu:(!bf)=false:=hu;have aX:=pT.1 (by simpa using hu);refine uR ?_;refine bg (fun hz=> ?_) (fun hz=> ?_)
 · have h0:0<i:=by have:(0:Int)<i:=dz hz;omega
   refine gY (n:=((i-1:Nat):Int)) oO om om (nW ?_);refine bz (f:=aY) (j:=i-1) rfl rfl om rfl (uR ?_);refine pd rfl (nW ?_);refine ae ⟨tm d.files[i].name (d.files[i-1]'om).name,rfl,?_⟩;constructor
   · intro h k;have:=(k hi).2 h0;rw[h]at this;cases this
   · intro h;rcases aiW (tm d.files[i].name (d.files[i-1]'om).name)with q|q
     · exact q
     · exact absurd (fun _=> ⟨⟨hn,aX⟩,fun _=>q⟩) h
 · have h0:¬0<i:=by have:¬(0:Int)<i:=eo hz;omega
   exact ae (fl fun h=>h fun _=> ⟨⟨hn,aX⟩,fun k=>absurd k h0⟩)
theorem Lo:∀(x y:List UInt8),Op.bytesLess x y=true ↔ x<y
 |[],[]=>by simp[Op.bytesLess]
 |_::_,[]=>by simp[Op.bytesLess]
 |[],_::_=>by simp[Op.bytesLess]
 |a::x,b::y=>by
  have ih:=Lo x y;rw[Op.bytesLess];simp only[List.cons_lt_cons_iff,←ih];by_cases h1:a<b<;>by_cases h2:a=b<;>simp[h1,h2]
theorem asq {a b:cn} (h:tm a b=false):b.toList<a.toList:=by
 unfold tm at h;rw[Bool.or_eq_false_iff]at h;have h1:¬a.toList<b.toList:=fun k=>by rw[(Lo _ _).2 k]at h;cases h.1
 have h2:a.toList≠b.toList:=fun k=>by rw[k]at h;simp at h
 rcases List.le_iff_lt_or_eq.1 (List.not_lt.1 h1)with k|k
 · exact k
 · exact absurd k.symm h2
theorem YG {d:Dk} (hd:nh d) {i j:Nat} (CJ:i<j) (hj:j<d.files.length):(d.files[i]'om).name.toList<d.files[j].name.toList:=by
 induction j with
 |zero=>omega
 |succ j ih=>
  have h1:=asq ((hd.2 (j+1) hj).2 om);simp only[Nat.add_sub_cancel]at h1;by_cases he:i=j
  · subst he;exact h1
  · exact List.lt_trans (ih om om) h1
theorem aaA {n s:cn} {b p:By}:∃c:Int,Gh [.s n,.r b,.r p,.s s]=some [.i c]∧(c<0 ↔ n.toList<s.toList)∧(c=0 ↔ n.toList=s.toList):=by
 have aim:∀x:cn,Fw [.s x]=some [.b false]:=fun x=>by
   refine a_ ?_;unfold agC;refine pd rfl (nW ?_);refine ae ?_;show[L.b (!(x.toList==x.toList))]=_;simp
 have aIS:Qp [.s n,.s s]=some [.i (if Op.bytesLess n.toList s.toList=true then-1 else if(Op.bytesLess n.toList s.toList||n.toList==s.toList)=true then 0 else 1)]:=by
   refine a_ ?_;unfold abx;refine ay (aim n) rfl rfl (nW ?_);refine ay (aim s) rfl rfl (nW ?_);refine cW rfl ?_;refine cW rfl ?_;refine pd rfl (nW ?_);refine bg (fun hx=> ?_) (fun hx=> ?_)
   · have hx:Op.bytesLess n.toList s.toList=true:=hx;refine ae ?_;show[L.i (-1)]=_;rw[au hx]
   refine pd rfl (nW ?_);refine bg (fun hy=> ?_) (fun hy=> ?_)
   · have hy:(!(Op.bytesLess n.toList s.toList||n.toList==s.toList))=true:=hy;refine ae ?_;show[L.i 1]=_;rw[aE (by rw[show Op.bytesLess n.toList s.toList=false from hx];decide),aE (by rw[lO]at hy;rw[hy];decide)]
   · have hy:(!(Op.bytesLess n.toList s.toList||n.toList==s.toList))=false:=hy;refine ae ?_;show[L.i 0]=_;rw[aE (by rw[show Op.bytesLess n.toList s.toList=false from hx];decide),au (by rwa [Bool.not_eq_false']at hy)]
 have hl:=Lo n.toList s.toList;have aIT:n.toList<s.toList→n.toList≠s.toList:=fun h e=>by rw[e]at h;exact List.lt_irrefl _ h
 have he:(n.toList==s.toList)=true ↔ n.toList=s.toList:=beq_iff_eq;refine⟨if Op.bytesLess n.toList s.toList=true then-1 else if(Op.bytesLess n.toList s.toList||n.toList==s.toList)=true then 0 else 1,?_,?_,?_⟩
 · refine a_ ?_;unfold X9;refine ay (l:=[]) ?_ rfl rfl ?_
   · refine a_ ?_;unfold Zl;exact ae rfl
   refine nW ?_;refine ay aIS rfl rfl (nW ?_);exact ae rfl
 · rw[←hl]
   cases Op.bytesLess n.toList s.toList with
   |true=>simp
   | false=>
     simp only[lP,if_false,Bool.false_or,iff_false];split<;>omega
 · rw[←he]
   cases hX:Op.bytesLess n.toList s.toList with
   | true=>
     have:=aIT (hl.1 hX);have:(n.toList==s.toList)=false:=IX.2 fun h=>this (he.1 h)
     simp[this]
   | false=>
     simp only[lP,if_false,Bool.false_or];cases n.toList==s.toList<;>simp
theorem amA {d:Dk} (hd:nh d) {s:cn}:(∀i,iv d s i→xv [.r (d.files.map aY),.s s]=some [.i i,.b true])∧(nt d s→∃i:Int,xv [.r (d.files.map aY),.s s]=some [.i i,.b false]):=by
 have hlen:=hd.1.2.2
 suffices h:∃i:Nat,∃b:Bool,xv [.r (d.files.map aY),.s s]=some [.i i,.b b]∧(∀j,iv d s j→i=j∧b=true)∧(nt d s→b=false)by
  obtain⟨i,b,h1,h2,h3⟩:=h;exact⟨fun j hj=>by obtain⟨rfl,rfl⟩:=h2 j hj;exact h1,fun hn=> ⟨i,by rw[h1,h3 hn]⟩⟩
 have fin:∀lo:Nat,lo≤d.files.length→(∀(j:Nat) (h:j<d.files.length),j<lo→d.files[j].name.toList<s.toList)→(∀(j:Nat) (h:j<d.files.length),lo≤j→¬d.files[j].name.toList<s.toList)→
    ∀b:Bool,(b=true ↔∃h:lo<d.files.length,d.files[lo].name.toList=s.toList)→(∀j,iv d s j→lo=j∧b=true)∧(nt d s→b=false):=fun lo h0 h1 h2 b hb=>by
  constructor
  · rintro j ⟨hj,heq,_⟩;have heq:d.files[j].name.toList=s.toList:=beq_iff_eq.1 heq;have dr:lo=j:=by
      rcases IN lo j with h|h|h
      · exact absurd (heq▸YG hd h hj) (h2 lo om (cT _))
      · exact h
      · exact absurd (h1 j hj h) (by rw[heq];exact List.lt_irrefl _)
    subst dr;exact⟨rfl,hb.2 ⟨hj,heq⟩⟩
  · intro hn;refine fF hb ?_;rintro⟨h,k⟩;have:=hn lo h;rw[beq_iff_eq.2 k]at this;cases this
 have hle:∀{j m:Nat} (Iv:j≤m) (hm:m<d.files.length),d.files[m].name.toList<s.toList→(d.files[j]'om).name.toList<s.toList:=fun {j m} Iv hm h=>by
  by_cases e:j=m
  · subst e;exact h
  · exact List.lt_trans (YG hd om hm) h
 have run:ad.wp Md [.r (d.files.map aY),.s s] (b8 fun x=>∃(i:Nat) (b:Bool),x=[.i i,.b b]∧(∀j,iv d s j→i=j∧b=true)∧(nt d s→b=false)):=by
  unfold Md;refine uR ?_;refine aH (fun xs=>∃lo:Nat,xs=[.i lo]∧lo≤d.files.length∧(∀(j:Nat) (h:j<d.files.length),j<lo→d.files[j].name.toList<s.toList)∧(∀(j:Nat) (h:j<d.files.length),lo≤j→¬d.files[j].name.toList<s.toList)) ?_ ?_
  · refine wp_loop (I:=fun a=>∃lo hi:Nat,a=[.i lo,.i hi]∧lo≤hi∧hi≤d.files.length∧(∀(j:Nat) (h:j<d.files.length),j<lo→d.files[j].name.toList<s.toList)∧(∀(j:Nat) (h:j<d.files.length),hi≤j→¬d.files[j].name.toList<s.toList)) (mu:=fun a=>match a with|[.i lo,.i hi]=> (hi-lo).toNat|_=>0) ⟨0,d.files.length,by show[L.i ((0:Nat):Int),L.i (d.files.map aY).length]=_;rw[ax],om,om,fun j _ hj=>by omega,fun j hj h=>absurd hj om⟩ ?_;rintro a ⟨lo,hi,rfl,e1,e2,p1,p2⟩;refine uR ?_;refine bg (fun hc=> ?_) (fun hc=> ?_);rotate_left
    · have hc:¬(lo:Int)<hi:=eo hc;obtain rfl:lo=hi:=om;exact ae ⟨lo,rfl,e2,p1,p2⟩
    have hc:(lo:Int)<hi:=dz hc;obtain⟨m,hm⟩:∃m,m=(lo+hi) /2:=⟨_,rfl⟩
    refine dt (n:=((lo+hi:Nat):Int)) oO om om (nW ?_);refine qp (n:=((lo+hi:Nat):Int)) (by rfl) om om (nW ?_);refine b5 (l:= .i m) (by
      show some (L.i (((lo+hi:Nat):Int).fdiv (2^min (Int.toNat 1) IntKind.u64.bits)))=_;rw[show(2:Int) ^min (Int.toNat 1) IntKind.u64.bits=2 by decide,SO _ om];congr 2;omega) ?_
    refine nW ?_;refine sI (n:=(m:Int)) (by rfl) om om (nW ?_);have nH:m<d.files.length:=om;refine bz (f:=aY) (j:=m) rfl rfl nH rfl (uR ?_);obtain⟨c,pL,hc1,hc2⟩:=aaA (n:=d.files[m].name) (s:=s) (b:=d.files[m].base) (p:=d.files[m].aR.map ep);refine ay pL rfl rfl (uR ?_);refine bg (fun hx=> ?_) (fun hx=> ?_)
    · have hx:c<0:=dz hx;refine bP (i:=m) rfl om (nW ?_);refine ae ⟨⟨m+1,hi,?_,om,e2,fun j hj Iv=>hle om nH (hc1.1 hx),p2⟩,?_⟩
      · show[L.i (((m+1:Nat):Int)),L.i hi]=_;rfl
      · show((hi:Int) - ((m+1:Nat):Int)).toNat< ((hi:Int) -lo).toNat;omega
    · have hx:¬c<0:=eo hx;refine ae ⟨⟨lo,m,rfl,om,om,p1,fun j hj Iv h=>hx (hc1.2 (hle Iv hj h))⟩,?_⟩;show((m:Int) -lo).toNat< ((hi:Int) -lo).toNat;omega
  · rintro _ ⟨lo,rfl,e1,p1,p2⟩;refine nW ?_;refine aH (cV (∃h:lo<d.files.length,d.files[lo].name.toList=s.toList)) ?_ ?_
    · refine uR ?_;refine bg (fun hx=> ?_) (fun hx=> ?_)
      · have hx:lo<d.files.length:=by
         have:(lo:Int)< (d.files.map aY).length:=dz hx;rw[ax]at this;omega
        refine bz (f:=aY) (j:=lo) rfl rfl hx rfl (uR ?_);obtain⟨c,pL,hc1,hc2⟩:=aaA (n:=d.files[lo].name) (s:=s) (b:=d.files[lo].base) (p:=d.files[lo].aR.map ep);refine ay pL rfl rfl (uR ?_);exact ae (fG (show c=0 ↔ _ from⟨fun h=> ⟨hx,hc2.1 h⟩,fun ⟨_,h⟩=>hc2.2 h⟩))
      · have hx:¬lo<d.files.length:=by
         have:¬(lo:Int)< (d.files.map aY).length:=eo hx;rw[ax]at this;omega
        exact ae (fl fun ⟨h,_⟩=>hx h)
    · rintro _ ⟨b,rfl,hb⟩;refine nW ?_;exact ae ⟨lo,b,rfl,fin lo e1 p1 p2 b hb⟩
 obtain⟨o,h1,i,b,rfl,h2,h3⟩:=iS run;exact⟨i,b,h1,h2,h3⟩
theorem WA {d:Dk} (hd:nh d) {s:cn} {x y:L}:(∀i,iv d s i→Bb [x,y,.r (d.files.map aY),.s s]=some [.i i,.b true])∧(nt d s→∃i:Int,Bb [x,y,.r (d.files.map aY),.s s]=some [.i i,.b false]):=by
 have w:∀i b,xv [.r (d.files.map aY),.s s]=some [.i i,.b b]→Bb [x,y,.r (d.files.map aY),.s s]=some [.i i,.b b]:=fun i b h=>by
  have h2:M3 [.r (d.files.map aY),.s s]=some [.i i,.b b]:=by
   refine a_ ?_;unfold TZ;refine ay h rfl rfl (nW ?_);exact ae rfl
  refine a_ ?_;unfold Uw;refine ay h2 rfl rfl (nW ?_);exact ae rfl
 obtain⟨h1,h2⟩:=amA hd (s:=s);exact⟨fun i hi=>w _ _ (h1 i hi),fun hn=>by obtain⟨i,hi⟩:=h2 hn;exact⟨i,w _ _ hi⟩⟩
theorem apR {d:Dk} (hd:rY d) {s:cn} (hs:s.size≤4611686018427387904):
   (∀i,Rd d s→iv d s i→zL [.i d.cap,.i d.left,.r (d.files.map aY),.s s]=some [.i i,.i 0])∧(¬(Rd d s∧∃i,iv d s i)→∃e:Int,e≠0∧zL [.i d.cap,.i d.left,.r (d.files.map aY),.s s]=some [.i 0,.i e]):=by
 obtain⟨bd,iL⟩:=du (nh d);obtain⟨bn,gD⟩:=du (gH s);constructor
 · rintro i ⟨h1,h2,h3⟩ hi;have hv:=Gc hd iL;have hn:=HX s hs gD;rw[iL.2 h1]at hv;rw[gD.2 h2]at hn;refine a_ ?_;unfold xp;refine aH (fun xs=>xs=[.b false]) ?_ ?_
   · refine ay hv rfl rfl (uR ?_);refine cW rfl ?_;refine ay hn rfl rfl (uR ?_);exact ae rfl
   rintro _ rfl;refine nW ?_;refine cW rfl (uR ?_);refine cJ rfl h3 ?_;refine ay ((WA h1).1 i hi) rfl rfl (uR ?_);refine cW rfl ?_;exact ae rfl
 · intro hno;by_cases h1:nh d;rotate_left
   · refine⟨1,dc,?_⟩;refine a_ ?_;unfold xp;refine aH (fun xs=>xs=[.b true]) ?_ ?_
     · refine ay (Gc hd iL) rfl rfl ?_;rw[fF iL h1];refine uR ?_;refine iz rfl ?_;exact ae rfl
     rintro _ rfl;refine nW ?_;refine iz rfl ?_;exact ae rfl
   by_cases h2:gH s;rotate_left
   · refine⟨1,dc,?_⟩;refine a_ ?_;unfold xp;refine aH (fun xs=>xs=[.b true]) ?_ ?_
     · refine ay (Gc hd iL) rfl rfl ?_;rw[iL.2 h1];refine uR ?_;refine cW rfl ?_;refine ay (HX s hs gD) rfl rfl ?_;rw[fF gD h2];refine uR ?_;exact ae rfl
     rintro _ rfl;refine nW ?_;refine iz rfl ?_;exact ae rfl
   have hv:=Gc hd iL;have hn:=HX s hs gD;rw[iL.2 h1]at hv;rw[gD.2 h2]at hn;have pre:∀{Q:Lf×List L→Prop},ad.wp _ ([.i d.cap,.i d.left,.r (d.files.map aY),.s s]++ [.b false]) Q→ad.wp xp [.i d.cap,.i d.left,.r (d.files.map aY),.s s] Q:=fun {Q} h=>by
     unfold xp;refine aH (fun xs=>xs=[.b false]) ?_ ?_
     · refine ay hv rfl rfl (uR ?_);refine cW rfl ?_;refine ay hn rfl rfl (uR ?_);exact ae rfl
     rintro _ rfl;exact h
   by_cases h3:d.left=0
   · refine⟨13,dc,?_⟩;refine a_ (pre ?_);refine nW ?_;refine cW rfl (uR ?_);refine iy rfl h3 ?_;exact ae rfl
   · have hnf:nt d s:=(Am d s).resolve_right fun h=>hno ⟨⟨h1,h2,h3⟩,h⟩
     obtain⟨i,hf⟩:=(WA h1 (x:= .i d.cap) (y:= .i d.left)).2 hnf;refine⟨6,dc,?_⟩;refine a_ (pre ?_);refine nW ?_;refine cW rfl (uR ?_);refine cJ rfl h3 ?_;refine ay hf rfl rfl (uR ?_);refine iz rfl ?_;exact ae rfl
theorem afN {d:Dk} (hd:rY d) {s:cn} (hs:s.size≤4611686018427387904):
   (∀c,Wh d s c→vl [.i d.cap,.i d.left,.r (d.files.map aY),.s s]=some [.b true,.r c])∧((∀c,¬Wh d s c)→vl [.i d.cap,.i d.left,.r (d.files.map aY),.s s]=some [.b false,.r []]):=by
 obtain⟨yes,no⟩:=apR hd hs;constructor
 · rintro c ⟨h1,h2,h3,i,hi,rfl⟩;have hat:=yes i ⟨h1,h2,h3⟩ hi;have hlt:=hi.1;have iM:=hd.2 _ (b9 hlt);have aX:=(h1.2 i hlt).1.2;have hc:=aAK iM.1 aX;have hl:=arq iM.1 aX;have hlen:=qC aX.1 (qv.1 aX.2) (cT _);rw[jg]at hlen;have tW:=uI iM.1.1 iM.1.2.2.2;have Su:G5 [.i d.cap,.i d.left,.r (d.files.map aY),.s s]=some [.i (c_ d.files[i].base d.files[i].aR).length,.i 0]:=by
    refine a_ ?_;unfold Nh;refine ay hat rfl rfl (uR ?_);refine cW rfl ?_;refine bz (f:=aY) (j:=i) rfl rfl hlt rfl (uR ?_);refine ay hl rfl rfl (nW ?_);exact ae rfl
   have aIV:OK [.i d.cap,.i d.left,.r (d.files.map aY),.s s,.i 0,.i (c_ d.files[i].base d.files[i].aR).length]=some [.i 0,.r (c_ d.files[i].base d.files[i].aR)]:=by
    refine a_ ?_;unfold Tp;refine ay hat rfl rfl (uR ?_);refine cW rfl ?_;refine bz (f:=aY) (j:=i) rfl rfl hlt rfl (uR ?_);refine ay hc rfl rfl (nW ?_);generalize c_ d.files[i].base d.files[i].aR=g at hlen tW;refine uR ?_;refine aH (fun xs=>xs=[.b false]) ?_ ?_
    · refine uR ?_;refine cW rfl (uR ?_);refine cJ rfl oO (uR ?_);refine cJ rfl oO ?_;refine gY (n:=(g.length:Int)) oO om om (uR ?_);exact ae (dF om)
    · rintro _ rfl;refine nW ?_;refine cW rfl ?_;refine dt (n:=(g.length:Int)) oO om om (uR ?_);refine AH (r:=g) ⟨by exact oO,by exact oO,by exact oO,tW⟩ (by simp only[At.ev,d3,d4,d5,d6,d8];rw[zG,rW,gd,jg]) (nW ?_);refine ay (Ut tW om) rfl rfl (nW ?_);exact ae rfl
   refine a_ ?_;unfold Nx;refine ay Su rfl rfl (uR ?_);refine cW rfl ?_;refine ay aIV rfl rfl (uR ?_);exact ae rfl
 · intro hno;obtain⟨e,he,hat⟩:=no (fun ⟨h,i,hi⟩=>hno _ ⟨h.1,h.2.1,h.2.2,i,hi,rfl⟩);have Su:G5 [.i d.cap,.i d.left,.r (d.files.map aY),.s s]=some [.i 0,.i e]:=by
    refine a_ ?_;unfold Nh;refine ay hat rfl rfl (uR ?_);refine iy rfl he ?_;exact ae rfl
   refine a_ ?_;unfold Nx;refine ay Su rfl rfl (uR ?_);refine iy rfl he ?_;exact ae rfl
end
end
end Go.Proofs.YtndegphojkiblaaGreatDoor
