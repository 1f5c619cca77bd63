/- A part of the proof. -/
import Derived.Test.YtndegphojkiblaaGreatDoorG12
import Derived.Test.YtndegphojkiblaaGreatDoorG15
import Derived.Test.YtndegphojkiblaaGreatDoorG24
import Derived.Test.YtndegphojkiblaaGreatDoorG26
import Derived.Test.YtndegphojkiblaaGreatDoorG27
import Derived.Test.YtndegphojkiblaaGreatDoorG28
import Derived.Test.YtndegphojkiblaaGreatDoorG39
import Derived.Test.YtndegphojkiblaaGreatDoorG40
import Derived.WalkKit
import Derived.Test.YtndegphojkiblaaGreatDoorRows
import Derived.ProofKit
import Derived.LaidMore
import Derived.OpenShut
import Derived.Below
import Derived.Stop.Joined
set_option linter.all false
set_option maxHeartbeats 4000000
set_option maxRecDepth 100000
namespace Go.Proofs.YtndegphojkiblaaGreatDoor
noncomputable section
section
open Go.RowKit Pl AI
attribute [local irreducible] ae.wp
theorem fetch_old {f gs vol B} (h:Inv f gs vol B) {i:Nat} (hi:i<gs.length) (hg:gs[i].mode=3) {m:Int} (hm:m≠3) (k c:Int) (x:It):
   Ad (rA (r1 k c i m x)++dA (bL f)++sA gs)=some [.i 0,.i 1,.r []]:=by
 refine aH ?_;refine ag (aco h.s hi m 0 x) rfl rfl (nW ?_);refine aB (fun xs=>xs=[.b true]) ?_ ?_
 · refine uR ?_;refine ba rfl om ?_;refine aP (f:=gR) (l:=gs) (j:=i) rfl rfl hi rfl (uR ?_);refine ba rfl (fun h=>h rfl) ?_;refine aP (f:=gR) (l:=gs) (j:=i) rfl rfl hi rfl (uR ?_);refine cS rfl hg (uR ?_);exact ad (dT hm)
 rintro _ rfl;refine nW ?_;refine dX rfl ?_;refine cm (n:=1) rfl om om (nW ?_);exact ad rfl
theorem Tv (key cookie) (del) (b:List Nat):GR [.i key,.i cookie,.b del,.r (b.map b1),.i key,.i cookie,.b del,.r (b.map b1)]=some [.b true]:=by
 refine aH ?_;refine aB (fun xs=>xs=[.b true]) ?_ (by rintro _ rfl;refine nW ?_;exact ad rfl);refine uR ?_;refine cS rfl rfl (uR ?_);refine cS rfl rfl (uR ?_);refine dX (by cases del<;>rfl) ?_;refine wv rfl (nW ?_);refine wv rfl (nW ?_);refine mM (l:= .b true) (by
  show some (L.b ((na b).toList==(na b).toList))=_;rw[show((na b).toList==(na b).toList)=true from beq_self_eq_true _]) ?_
 refine nW ?_;exact ad rfl
abbrev gA (f:Fs) (gs:List Ge) (ds:List Nl) (k c:Int):List L:=[.i 0,.i (-1),.r ((bL f).map aQ),.i 1,.i 9000,.b false,.r (gs.map gR),.r (ds.map dR),.i 1,.i 9000,.b false,.r (gs.map gR),.i k,.i c]
theorem apf {f gs vol B} (h:Inv f gs vol B) (hB:B≤16000) (ds) {k c:Int} {i:Nat} {x} (hs:gi gs k gs.length=some (i,x)) (hc:x.cookie=c):Bh (gA f gs ds k c)=some [.b true,.i x.key,.i x.cookie,.b false,.r ((eH (vol i) x).map b1),.i 0]:=by
 have hd:=Tn (l:=bL f) (by have:=nq f 72 0;show(fQ f 0 72).length≤_;omega) Yo;obtain⟨hi,hl⟩:=ach h.s hs hc;have hx:=NO (AJ hs).2 hi;have hst:=YJ (f:=f) h.s hl;have aEx:=aiZ (f:=f) h.s (avg h hB hi hx (m:=gs[i].mode) (fun e=>e) k c);refine aH ?_;refine ag (Qu (.i k) (.i c)) rfl rfl (nW ?_);refine aB (fun xs=>False) ?_ (by rintro _ h;cases h);refine wp_loop (I:=fun a=>a= .i 0::rA (r0 k c)∨a= .i 1::rA (r1 k c i gs[i].mode x)) (mu:=fun a=>match a with| .i n::_=>1-n.toNat|_=>0) (.inl rfl) ?_;rintro a (rfl|rfl)
 · refine uR ?_;refine cS rfl oO ?_;refine ag hd rfl rfl (nW ?_);refine ag hst rfl rfl (nW ?_);refine aB (fun xs=>xs=[.b false]) ?_ ?_
   · refine uR ?_;refine ba rfl (fun h=>h rfl) (uR ?_);exact ad (dF oO)
   rintro _ rfl;refine uR ?_;refine bj rfl (uR ?_);refine ba rfl oO ?_;refine bg (i:=0) rfl om (nW ?_);exact ad ⟨.inr rfl,by show 1- (1:Int).toNat<1- (0:Int).toNat;decide⟩
 · refine uR ?_;refine cS rfl oO ?_;refine ag hd rfl rfl (nW ?_);refine ag aEx rfl rfl (nW ?_);refine aB (fun xs=>xs=[.b false]) ?_ ?_
   · refine uR ?_;refine ba rfl (fun h=>h rfl) (uR ?_);exact ad (dF oO)
   rintro _ rfl;refine uR ?_;refine bj rfl (uR ?_);refine cS rfl oO ?_;refine iC (r:=aR x.key x.cookie (eH (vol i) x) 0) oO rfl rfl (nW ?_);refine kF (r:=aR x.key x.cookie (eH (vol i) x) 0) rfl rfl rfl (nW ?_);refine kF (r:=aR x.key x.cookie (eH (vol i) x) 0) rfl rfl rfl (nW ?_);refine kF (r:=aR x.key x.cookie (eH (vol i) x) 0) rfl rfl rfl (nW ?_);refine kF (r:=aR x.key x.cookie (eH (vol i) x) 0) rfl rfl rfl (nW ?_);refine kF (r:=aR x.key x.cookie (eH (vol i) x) 0) rfl rfl rfl (nW ?_);exact ad rfl
def zN:Nl:=⟨0,0,false,[]⟩
end
section
attribute [local irreducible] Fo
open Go.RowKit
def fir628:ae:= .cA 156 Iq [U0,(.i 8)] 8<|.op (.bi .and .u64 U1 (.i 7))<|.op (.lit [[((.int .u64),(.i 0)),((.int .u32),(.i 0)),(.bool,(.b false)),(.sl,.r0)]])<|.cA 3003 TR [U9,ax,aw] 2<|.cl aD 0 (.int .u64)<|.cl aD 1 (.int .u32)<|.cl aD 2 .bool<|.cl aD 3 .sl<|.cA 2052 aqp [U5,U6,U7,U8] 1<|.cA 192 yF [U5,U6,U7,aL,ax] 8<|.join (.no aE<|.ite bw (.j [(.b true)]) (.no aX<|.ite b9 (.j [(.b true)]) (.bI .neq bk (.i 1)<|.j [cC]))) (.ite bw (.join (.op (.bb .eql aE aX)<|.ite b9 (.cA 195 Ez [] 1<|.j [cC]) (.j [(.b false)])) (.j [b9])) (.cA 2051 BU [U2,U3,U4] 1<|.cA 2052 aqp [U5,U6,U7,U8] 1<|.cA 14 xR [ax,aJ] 0<|.cA 420 qi [U2,U3,b9,U5,U6,U7,cC,ax,aJ,(.i 0),(.i 0),(.i 0),(.i 0),(.i 0),(.i 0),(.i 0),(.i 0),(.i 0)] 13<|.join (.bI .neq cP (.i 0)<|.ite pU (.j [(.b true)]) (.ln sq<|.bI .gtr tW (.i 0)<|.ite ku (.j [(.b true)]) (.bI .neq eP (.i 1)<|.j [sy]))) (.ite pU (.j [(.b false)]) (.cA 619 F_ [U2,U3,U4,U5,U6,U7,U8,U9] 8<|.cA 2051 BU [ku,sy,wY] 1<|.cA 2052 aqp [mD,pf,xT,tR] 1<|.cA 420 qi [ku,sy,pY,mD,pf,xT,AW,dq,cq,eP,eT,fT,gI,iZ,j_,kE,gq,my] 13<|.join (.bI .neq AR (.i 0)<|.ite tz (.j [(.b true)]) (.ln Dl<|.bI .neq VJ (.i 1)<|.ite R7 (.j [(.b true)]) (.rw Dl (.i 0) 5<|.op (.rc Dl (.i 0) 4 (.int .i64))<|.bI .neq PX (.i 0)<|.ite V0 (.j [(.b true)]) (.rw Dl (.i 0) 5<|.op (.rc Dl (.i 0) 0 (.int .u64))<|.op (.rc Dl (.i 0) 1 (.int .u32))<|.op (.rc Dl (.i 0) 2 .bool)<|.op (.rc Dl (.i 0) 3 .sl)<|.cA 338 GR [U74,U75,U76,U77,aG,aJ,aN,aM] 1<|.no U78<|.ite U79 (.j [(.b true)]) (.bI .neq DO (.i 0)<|.j [(.v 80)]))))) (.ite tz (.j [(.b false)]) (.no tW<|.ite VJ (.cA 195 Ez [] 1<|.j [R7]) (.join (.loop [ku,sy,wY,mD,pf,xT,tR] (.cA 617 FX [R7,Sc,PX,V0,V3,U74,U75,U9] 8<|.ite U76 (.j [U77,U78,U79,(.v 80),(.v 81),(.v 82),(.v 83)]) (.ak (.jump 1 [U77,U78,U79,(.v 80),(.v 81),(.v 82),(.v 83)])))) (.cA 2051 BU [R7,Sc,PX] 1<|.cA 2052 aqp [V0,V3,U74,U75] 1<|.cA 420 qi [R7,Sc,U76,V0,V3,U74,U77,dq,cq,eP,eT,fT,gI,iZ,j_,kE,gq,my] 13<|.join (.bI .neq U78 (.i 0)<|.ite (.v 91) (.j [(.b true)]) (.ln (.v 90)<|.bI .neq (.v 92) (.i 0)<|.ite (.v 93) (.j [(.b true)]) (.bI .neq (.v 81) (.i 0)<|.ite (.v 94) (.j [(.b true)]) (.bI .neq (.v 89) (.i 1)<|.j [(.v 95)])))) (.ite (.v 91) (.j [(.b false)]) (.cA 2052 aqp [V0,V3,U74,U75] 1<|.cA 627 Bh [R7,Sc,PX,V0,V3,U74,U75,U9,V0,V3,U74,(.v 92),ax,aJ] 6<|.join (.ite (.v 93) (.bI .eql (.v 98) (.i 0)<|.ite (.v 99) (.cA 338 GR [(.v 94),(.v 95),(.v 96),(.v 97),aG,aJ,aN,aM] 1<|.ite (.v 100) (.cA 195 Ez [] 1<|.j [(.v 101)]) (.j [(.b false)])) (.j [(.b false)])) (.j [(.b false)])) (.j [(.v 99)])))))))))))
def F628:=Fo fir628
def s628:au:=⟨6,[(.c (.p .sl U0)),(.c (.p (.int .u64) U1))],[],2,1,(.v (.c (.p .bool U2))),[],F628,628⟩
theorem ok628:Ok s628:=oS (.cons agd (.cons aud (.cons Q6 (.cons awI (.cons avA (.cons YX (.cons amw (.cons aiE (.cons ayk (.cons WC (.cons JX (.cons Rn (.cons azu .nil)))))))))))))
end
section
open Go.RowKit Pl AI
attribute [local irreducible] ae.wp
theorem turn_R {f gs vol ds B} (h:iG f gs vol ds B) (hB:B≤15000) {k:Int} {i:Nat} {x:It} (hs:gi gs k gs.length=some (i,x)) (hi:i<gs.length) (hm:gs[i].mode=1):
   ∃b f' gs' jc,F_ (mA f gs ds)=some (.b b::dA (bL f')++sA gs')∧Inv f' gs' jc (B+248)∧jc i=vol i∧gi gs' k gs'.length=some (i,x)∧∃hi':i<gs'.length,gs'[i].mode≠3∧(b=true→i+1<gs'.length):=by
 have hr:=atZ (h.i.okF om) h.i.s (h.i.ft _ (cn _)) (.r (ds.map dR));have hI:=h.i;by_cases h8:gs.length<8
 · rw[ay h8]at hr;have hlen:=GA hI.s;have hno:look (dv gs) gs.length k=none:=by
     rw[VI hI.s];unfold look;rw[mo,CX (cn _)];rfl
   have n4:=((hI.s.ok i hi).2.2).1 hm;refine⟨true,Dw f gs,dv gs,rM gs vol,hr,hI.rot h8,aC om,?_,om,?_,fun _=>by omega⟩
   · rw[hlen,gi,hno];dsimp only;rw[L4 fun i _=>VI hI.s i k];exact hs
   · rcases Lh hI.s (show i< (dv gs).length by omega)with⟨e,_⟩| ⟨_,e⟩| ⟨e,_⟩
     · omega
     · rw[e];show(2:Int)≠3;decide
     · omega
 · rw[aC h8]at hr;exact⟨false,f,gs,vol,hr,hI.mono om,rfl,hs,hi,by rw[hm];decide,fun h=>by cases h⟩
def cntM (gs:List Ge):Nat:=gs.countP fun e=>e.mode==2
def m2R:List PV→Bool
 |[_,_,.sc (.int _ m),_,_,_,_,_,_,_,_,_,_,_]=>m==2
 |_=>false
theorem cnt_R (gs:List Ge):(gs.map gR).countP m2R=cntM gs:=by
 rw[List.countP_map];rfl
theorem BK.cntS {f gs vol f' gs'} (h:BK f gs vol true f' gs'):cntM gs'+1=cntM gs:=by
 rcases h with⟨h,_⟩| ⟨_,i,hi,hm,rfl,rfl⟩
 · cases h
 · have hp:0<gs.countP fun e=>e.mode==2:=List.countP_pos_iff.2 ⟨gs[i],b8 hi,by rw[hm];rfl⟩
   unfold cntM;rw[List.countP_set hi,ay (by rw[hm];rfl),aC (by show¬((3:Int)==2)=true;decide)];omega
theorem scan_same {gs gs':List Ge} {k:Int} (h1:gs'.length=gs.length) (h2:∀j k,look gs' j k=look gs j k):gi gs' k gs'.length=gi gs k gs.length:=by
 rw[h1];exact L4 fun i _=>h2 i k
theorem retries_law {A} (hA:AC.rows wH A) (key:Int):F628 [.r A,.i key]=some [.b true]:=by
 obtain⟨f,gs,vol,ds,aEy,aO⟩:=adp hA (most:=8) om;obtain⟨k,fZ,hk2,hk3⟩:=Vd (a:=key);obtain⟨w,hw⟩:∃w,(gl k ds).getD zN=w:=⟨_,rfl⟩
 obtain⟨b,hb⟩:∃b,(gl k ds).isSome=b:=⟨_,rfl⟩
 have jF:TR [.r (ds.map dR),.i k,.r [[.sc (.int .u64 0),.sc (.int .u32 0),.sc (.bool false),.sl []]]]=some [.c w.row,.b b]:=by
   show(if((hZ k (ds.map dR)).getD zN.row).length=zN.row.length then some [L.c ((hZ k (ds.map dR)).getD zN.row),.b (hZ k (ds.map dR)).isSome]else none)=_;rw[XX,←hw,←hb]
   cases gl k ds with
   |none=>rfl
   |some y=>rfl
 have hh:=aO.h k;unfold has at hh;have hf:=RW aO.i.s k;refine aH ?_;refine ag aEy rfl rfl (nW ?_);refine cv (l:= .i k) fZ (uR ?_);refine ag jF rfl rfl (uR ?_);refine ag (adG aO.i.s.n8) rfl rfl (nW ?_)
 cases hs:gi gs k gs.length with
 | none=>
   rw[hs]at hh hf;have hh:gl k ds=none:=hh;rw[hh]at hb;have hb:false=b:=hb;subst hb;simp only[Py,B_]at hf;refine ag hf rfl rfl (nW ?_);refine aB (fun xs=>xs=[.b true]) ?_ ?_
   · refine uR ?_;refine dX rfl ?_;exact ad rfl
   rintro _ rfl;refine nW ?_;refine dX rfl ?_;refine aB (fun xs=>xs=[.b true]) ?_ (by rintro _ rfl;refine nW ?_;exact ad rfl);refine uR ?_;refine dX rfl ?_;refine ag acJ rfl rfl (nW ?_);exact ad rfl
 |some p=>
 obtain⟨i,x⟩:=p;rw[hs]at hh hf;have hh:gl k ds=some (kK (vol i) x):=hh;rw[hh]at hb hw;have hb:true=b:=hb;subst hb;have hw:kK (vol i) x=w:=hw;have hwc:x.cookie=w.cookie:=by rw[←hw];rfl
 have hwk:x.key=w.key:=by rw[←hw];rfl
 have hwd:eH (vol i) x=w.data:=by rw[←hw];rfl
 have Hq:GR [.i w.key,.i w.cookie,.b false,.r (w.data.map b1),.i w.key,.i w.cookie,.b w.del,.r (w.data.map b1)]=some [.b true]:=by
   rw[show w.del=false by rw[←hw];rfl];exact Tv _ _ _ _
 obtain⟨hi,hl⟩:=ach aO.i.s hs hwc;simp only[aV,B_]at hf;rw[jA hi,Ge.num,(aO.i.s.ok i hi).2.1]at hf;have hf:yF (sA gs++ [.i k])=some [.b true,.i (i+1:Nat),.i gs[i].mode,.i 0,.i x.key,.i x.cookie,.i x.off,.i x.size]:=hf;refine ag hf rfl rfl (nW ?_);by_cases hm:gs[i].mode=1;rotate_left
 · refine aB (fun xs=>xs=[.b true]) ?_ ?_
   · refine uR ?_;refine bj rfl (uR ?_);refine bj rfl (uR ?_);exact ad (dT hm)
   rintro _ rfl;refine nW ?_;refine dX rfl ?_;refine aB (fun xs=>xs=[.b true]) ?_ (by rintro _ rfl;refine nW ?_;exact ad rfl);refine uR ?_;refine dX rfl ?_;refine ag acJ rfl rfl (nW ?_);exact ad rfl
 refine aB (fun xs=>xs=[.b false]) ?_ ?_
 · refine uR ?_;refine bj rfl (uR ?_);refine bj rfl (uR ?_);exact ad (dF fun h=>h hm)
 rintro _ rfl;refine nW ?_;refine bj rfl ?_;rw[hm]at hl;have hpd:∀f:Fs,BU [.i 0,.i (-1),.r ((bL f).map aQ)]=some [.r ((bL f).map aQ)]:=fun f=>Tn (l:=bL f) (by have:=nq f 72 0;show(fQ f 0 72).length≤_;omega) Yo
 have hst:=YJ (f:=f) aO.i.s hl;refine ag (hpd f) rfl rfl (nW ?_);refine ag (adG aO.i.s.n8) rfl rfl (nW ?_);refine ag (Qu (.i k) (.i w.cookie)) rfl rfl (nW ?_);refine ag hst rfl rfl (nW ?_);refine aB (fun xs=>xs=[.b false]) ?_ ?_
 · refine uR ?_;refine ba rfl (fun h=>h rfl) (uR ?_);refine ba rfl oO (uR ?_);exact ad (dF fun h=>h rfl)
 rintro _ rfl;refine nW ?_;refine bj rfl ?_;obtain⟨t,f1,cI,vol1,hrot,hI1,s_,hs1,eR,hm3,ht⟩:=turn_R aO om hs hi hm;have hx1:=NO (AJ hs1).2 eR;have aCb:=aiZ (f:=f1) hI1.s (avg hI1 om eR hx1 (m:=1) (fun e=>absurd e hm3) k w.cookie);rw[s_,hwk,hwc,hwd]at aCb;refine ag hrot rfl rfl (nW ?_);refine ag (hpd f1) rfl rfl (nW ?_);refine ag (adG hI1.s.n8) rfl rfl (nW ?_);refine ag aCb rfl rfl (nW ?_);refine aB (fun xs=>xs=[.b false]) ?_ ?_
 · refine uR ?_;refine ba rfl (fun h=>h rfl) (uR ?_);refine ba rfl (fun h=>h rfl) ?_;refine iC (r:=aR w.key w.cookie w.data 0) oO rfl rfl (nW ?_);refine kF (r:=aR w.key w.cookie w.data 0) rfl rfl rfl (uR ?_);refine ba rfl (fun h=>h rfl) ?_;refine iC (r:=aR w.key w.cookie w.data 0) oO rfl rfl (nW ?_);refine kF (r:=aR w.key w.cookie w.data 0) rfl rfl rfl (nW ?_);refine kF (r:=aR w.key w.cookie w.data 0) rfl rfl rfl (nW ?_);refine kF (r:=aR w.key w.cookie w.data 0) rfl rfl rfl (nW ?_);refine kF (r:=aR w.key w.cookie w.data 0) rfl rfl rfl (nW ?_);refine ag Hq rfl rfl (uR ?_);refine bj rfl (uR ?_);exact ad (dF fun h=>h rfl)
 rintro _ rfl;refine nW ?_;refine bj rfl (uR ?_)
 cases t with
 | false=>
   refine dX rfl ?_;refine ag acJ rfl rfl (nW ?_);exact ad rfl
 |true=>
 have ht:=ht rfl;refine bj rfl ?_;have gF:cntM cI≤8:=me List.countP_le_length hI1.s.n8;refine aB (fun xs=>∃f gs,xs=dA (bL f)++sA gs∧Inv f gs vol1 15000∧gi gs k gs.length=some (i,x)∧∃hi:i<gs.length,gs[i].mode=3) ?_ ?_
 · refine wp_loop (I:=fun a=>∃f gs,a=dA (bL f)++sA gs∧Inv f gs vol1 (12248+248*(8-cntM gs))∧cntM gs≤8∧gs.length=cI.length∧∀j k,look gs j k=look cI j k) (mu:=fun a=>match a with|[_,_,_,_,_,_,.r l]=>l.countP m2R|_=>0) ⟨f1,cI,rfl,hI1.mono om,gF,rfl,fun _ _=>rfl⟩ ?_;rintro _ ⟨f2,gV,rfl,c1,c2,c3,c4⟩;obtain⟨t2,f3,gs3,h1,h2⟩:=ayc c1 om (.r (ds.map dR));obtain⟨i1,i2,i3⟩:=h2.inv c1 om;refine nW ?_;refine ag h1 rfl rfl (nW ?_)
   cases t2 with
   | true=>
     refine dX rfl ?_;have hc:=h2.cntS;refine ad ⟨⟨f3,gs3,rfl,i1.mono om,om,i2.trans c3,fun j k=> (i3 j k).trans (c4 j k)⟩,?_⟩;show(gs3.map gR).countP m2R< (gV.map gR).countP m2R;rw[cnt_R,cnt_R];omega
   | false=>
     refine bj rfl ?_;rcases h2 with⟨_,rfl,rfl,hno⟩| ⟨h2,_⟩
     · have hi3:i<gs3.length:=om;have hg:=c1.s.ok i hi3;have kh:gs3[i].mode≠1:=fun e=>by have:=hg.2.2.1 e;omega
       have:=hno i hi3;have:=hg.1.m1;have:=hg.1.m3;exact ad ⟨f3,gs3,rfl,c1.mono om,(scan_same c3 c4).trans hs1,hi3,om⟩
     · cases h2
 rintro _ ⟨f2,gV,rfl,c1,c2,ik,c3⟩;have aEx:=aiZ (f:=f2) c1.s (fetch_old c1 ik c3 (m:=1) dc k w.cookie x);have Cj:=apf c1 om ds c2 hwc;rw[s_,hwk,hwc,hwd]at Cj;refine nW ?_;refine ag (hpd f2) rfl rfl (nW ?_);refine ag (adG c1.s.n8) rfl rfl (nW ?_);refine ag aEx rfl rfl (nW ?_);refine aB (fun xs=>xs=[.b false]) ?_ ?_
 · refine uR ?_;refine ba rfl (fun h=>h rfl) (uR ?_);refine ba rfl (fun h=>h rfl) (uR ?_);refine ba rfl (fun h=>h rfl) (uR ?_);exact ad (dF fun h=>h rfl)
 rintro _ rfl;refine nW ?_;refine bj rfl ?_;refine ag (adG c1.s.n8) rfl rfl (nW ?_);refine ag Cj rfl rfl (nW ?_);refine aB (fun xs=>xs=[.b true]) ?_ (by rintro _ rfl;refine nW ?_;exact ad rfl);refine dX rfl (uR ?_);refine cS rfl rfl ?_;refine ag Hq rfl rfl (nW ?_);refine dX rfl ?_;refine ag acJ rfl rfl (nW ?_);exact ad rfl
end
section
attribute [local irreducible] F628
open Go.Deep Go.ChangeShapes Go.WideShapes Go.ChangeAt Go.RowKit AI
theorem awe:ownKnob Tryz.prog.godebug=none:=kr
section
variable {H:Type} {enc:a6×bh→H} {w:a7} {base:Nat} {spare:Nat→Bool} {held:Bool}
def M0:eS:=fun _=>False
theorem aAv:m_ enc Tryz.prog w base spare held M0 71 (.sl 9223372036854775807 [.int .u8 0 255]):=
 EL Tryz.underlying71 kr dc (fun _ h=>h) (Z7 (ya Tryz.underlying5 fun _=>bounds_u8))
theorem aiX:m_ enc Tryz.prog w base spare held M0 81 (.sl 9223372036854775807 [.int .u64 0 18446744073709551615]):=
 EL Tryz.underlying81 kr dc (fun _ h=>h) (Z7 (ya Tryz.underlying22 fun _=>bounds_u64))
theorem ajs:El enc Tryz.prog w base spare held M0 73 4 wP:=
 V2 Tryz.underlying73 kr rfl rfl rfl rfl kr kr kr kr (ya Tryz.underlying22 fun _=>bounds_u64) (ya Tryz.underlying23 fun _=>bounds_u32) (axS Tryz.underlying4) aAv
theorem aiy:m_ enc Tryz.prog w base spare held M0 80 (.sl 9223372036854775807 wP):=
 EL Tryz.underlying80 kr dc (fun _ h=>h) ajs
theorem apv:El enc Tryz.prog w base spare held M0 83 4 wH:=
 V2 Tryz.underlying83 kr rfl rfl rfl rfl kr kr kr kr (ya Tryz.underlying3 fun _=>bounds_i64) aiy (ya Tryz.underlying3 fun _=>bounds_i64) aiX
theorem awl:m_ enc Tryz.prog w base spare held M0 30 (.sl 9223372036854775807 wH):=
 EL Tryz.underlying30 kr dc (fun _ h=>h) apv
end
theorem calls6 {w:a7} {v0:bh} {rows:List (List PV)} {key:Int} (h0:RP M0 w (.sl rows) v0) (hr:AC.rows wH rows):
   Calls Tryz.prog 6 #[v0,.int .u64 key] w fun e w'=>e= .returned (.bool true)∧Below w.heap.size w w':=by
 have eF:s628.F=F628:=rfl;have hp:F628 [.r rows,.i key]=some [.b true]:=retries_law hr key;have hA:=ok628 [.r rows,.i key] [.b true] rfl (by rw[eF];exact hp) rfl;have hb:bad M0 ⟨fun _=>none,[]⟩=M0:=by
   funext g;simp[bad,M0]
 refine(hA.call w M0 (fun _=>none) #[v0,.int .u64 key] (fun g h=>h.elim) (fun n x h=>by cases h) (fun n x g h=>by cases h) (fun n m x y g h=>by cases h) (fun n b h=>by simp[s628]at h) rfl (fun i x hi=> ?_)).mono ?_
 · match i with
   |0=>
    cases hi;refine⟨v0,rfl,?_⟩;show RP (bad M0 _) w (.sl rows) v0;rw[hb];exact h0
   |1=>
    cases hi;refine⟨_,rfl,?_⟩;show RP (bad M0 _) w (.sc (.int .u64 key)) _;exact .sc rfl
   |i+2=>simp[s628]at hi
 · rintro e w' ⟨v,E',rfl,hF,-,-,hv⟩;have hv:RP _ w' (.sc (.bool true)) v:=hv;cases hv;exact⟨rfl,hF.os,hF.tape,hF.output,hF.size,fun k hk=>hF.block k hk (fun ⟨n,x,h,_⟩=>by cases h)⟩
end
end
end Go.Proofs.YtndegphojkiblaaGreatDoor
