/- A part of the proof. -/
import Derived.Test.YtndegphojkiblaaGreatDoorG14
import Derived.Test.YtndegphojkiblaaGreatDoorG15
import Derived.WalkKit
import Derived.WalkSpells
import Derived.Deep.RegionHeld3
import Derived.Deep.AppendLies
import Derived.IntWalk
import Derived.StillTail
import Derived.StillTailTactics
import Derived.Laws.CopyOwn
import Derived.Lib.Hide
import Derived.WalkArith
import Derived.RangeFuncBox
import Derived.RangeFuncCalls
import Derived.RangeFuncLeaves
import Derived.Shelf.Abstract
import Derived.OwnWalkIn
import Derived.TacticsInMore
import Derived.LoopNIn
import Derived.LoopIn
set_option linter.all false
set_option maxHeartbeats 4000000
set_option maxRecDepth 100000
namespace Go.Proofs.YtndegphojkiblaaGreatDoor
noncomputable section
section
open Go.RowKit
open Classical
theorem eJ.azy {P} {f} {args} {e} {rows} (h:eJ P f args [] (.v (.c (.sub 0 0 0))) [(0,.row e rows)]):eJ P f args [] (.v (.c (.own 0))) [(0,.row e [])]:=by
 refine⟨h.own,fun w M N vals h1 h2 h3 h4 h5 h6 h7=> (h.call w M N vals h1 h2 h3 h4 h5 h6 h7).mono ?_⟩;rintro _ w' ⟨v,E',rfl,ja,fj,hH,hv⟩;obtain⟨x,cur,fz,k1,bX,k2,k3,k4,k5,k6,k7,k8,k9,i_,ly⟩:=hH 0 _ rfl;obtain⟨y,j1,j2,A,j3,j4⟩:=bO.get (show RC M E' w' (.sub 0 0 0) v from hv) (by rw[fj.ar];simp);rw[k1]at j1;cases j1;have hA:=j4 (.inr rfl);simp only[Nat.zero_mul,Nat.sub_zero]at hA j3;refine⟨v,⟨fun n=>if n=0 then some {x with len:=0}else E'.N n,[]⟩,rfl,ja,⟨rfl,?_,?_,fun m hm=>absurd hm (zo m)⟩,?_,?_⟩
 · intro n z g hz hg;simp only at hz;split at hz
   · cases hz;exact fj.names 0 x g k1 hg
   · exact fj.names n z g hz hg
 · intro n m z z' g hz hz' hg hg';simp only at hz hz';split at hz<;>split at hz'
   · omega
   · cases hz;have:=fj.inj 0 m x z' g k1 hz' hg hg';omega
   · cases hz';have:=fj.inj n 0 z x g hz k1 hg hg';omega
   · exact fj.inj n m z z' g hz hz' hg hg'
 · intro n b hb;simp only[gW,oq]at hb;split at hb
   · rename_i hn;simp at hn;subst hn;cases hb;exact⟨{x with len:=0},cur,fz,by simp,bX,k2,rfl,fm _,k5,k6,k7,k8,fun r hr=>by simp at hr,i_,fun i r j p hi=>by simp at hi⟩
   · cases hb
 · exact .inr ⟨{x with len:=0},by simp,by rw[j3,hA]⟩
theorem asG {P} {T e} (hT:P.underlying T=some (.slice e)) (A) (n c) (w):(Op.equal T (.slice A n c) (.slice none 0 0)).run P w= .ok A.isNone w:=by
 have key:∀d,(Op.equalIn (d+1) T (.slice A n c) (.slice none 0 0)).run P w= .ok A.isNone w:=fun d=>by
  cases A<;>simp[Op.equalIn,run_underlying hT]
 exact key 9999
section
variable {X:Fx} {Q:Exit→av→Prop} {st:av}
theorem Jw {id t3 t4 i T ty3 ty4 yT:Nat} {p3 p4} {a3 a4} {rows} {e} (hi:st.tmps[i]? =some (.v (.c (.p (.sl rows))))) (OG:t3<st.tmps.length) (hT:X.P.underlying T=some (.slice e))
   (hQ:∀b,(b=true→rows=[])→Q .normal ((st.put (some t3) (.v (.c (.p (.sl rows))))).put (some t4) (.sc (.bool b)))):
   Aw X (.region id #[{dst:=some t3,op:= .move (.tmp i),type:=ty3,pos:=p3,after:=a3,guard:=none},{dst:=some t4,op:= .binOp .eql T (.tmp t3) (.const (.slice none 0 0)) yT,type:=ty4,pos:=p4,after:=a4,guard:=none}] false) Q st:=fun a w ht=>by
 obtain⟨E,hR,hg⟩:=ht;obtain⟨u,h1,h2⟩:=hR.tmps i _ hi;have hlt:t3<a.tmps.size:=by rw[hR.size];exact OG
 refine wp_region ?_;have hu:∃A n c,u= .slice A n c∧(A=none→rows=[]):=by
   cases h2 with
   |nil=>exact⟨_,_,_,rfl,fun _=>rfl⟩
   |row=>exact⟨_,_,_,rfl,fun h=>by cases h⟩
 obtain⟨A,n,c,rfl,hn⟩:=hu;have Hw:∀b,(b=true→rows=[])→∃st',Q .normal st'∧Told X st' ((a.put (some t3) (.slice A n c)).put (some t4) (.bool b)) w:=fun b hb=>
   ⟨_,hQ b hb,E,(hR.put (some t3) (v:= .v (.c (.p (.sl rows)))) h2).put (some t4) (v:= .sc (.bool b)) (RP.sc rfl),hg⟩
 have e1:a.eval (.tmp i)= .slice A n c:=by simp[Act.eval,h1]
 have e2:(a.put (some t3) (.slice A n c)).eval (.tmp t3)= .slice A n c:=by simp[Act.eval,Act.put,wg,hlt]
 have e3:∀a':Act,a'.eval (.const (.slice none 0 0))= .slice none 0 0:=fun _=>rfl
 have hq:(Op.equal T (.slice A n c) (.slice none 0 0)).run X.P w= .ok A.isNone w:=asG hT A n c w;have hb:(binOp .eql T (.slice A n c) (.slice none 0 0)).run X.P w= .ok (.bool A.isNone) w:=by
   simp only[binOp];rw[Sem.run_bind,hq];rfl
 have hgd:(eqGuard .eql T (.tmp t3) (.const (.slice none 0 0)) (.slice A n c) (.slice none 0 0)).run X.P w= .ok () w:=by
   simp[eqGuard]
 rw[show(List.range (#[({dst:=some t3,op:= .move (.tmp i),type:=ty3,pos:=p3,after:=a3,guard:=none}:Oper),{dst:=some t4,op:= .binOp .eql T (.tmp t3) (.const (.slice none 0 0)) yT,type:=ty4,pos:=p4,after:=a4,guard:=none}]).size)=[0,1]from rfl];simp only[wpOps,Region.wanted,CR,rH,H0,if_true];refine .inl (jZ (u:= .slice A n c) (w':=w) ?_ (.inl ?_))
 · simp only[execOp,e1];rfl
 · refine jZ (u:= .bool A.isNone) (w':=w) ?_ ?_
   · simp only[execOp,e2,e3,Sem.run_bind,hgd,hb,Result.andThen_ok];rfl
   · exact Hw _ (fun h=>hn (by simpa using h))
end
def Az (T:aU) (C:cK) (c:Code) (k0:Nat) (rs:List ResultVar) (S:af):Option zL:=
 match exec T C k0 c (rP rs) [] (rP rs) S with
 | some t=>match(merge (rP rs) k0 S.nv t.rO).map (af.order k0)with
  |some S'=>match t.bind (fin T k0 S.nv S') 0,D1 T rs S' with
   |some u,some r=>some ⟨u,r,S'.heap.filter (fun x=> (reach S'.heap 4 (List.range k0++r.names)).contains x.1),S'.nv-S.nv⟩
   |_,_=>none
  |none=>none
 |none=>none
theorem Mi {P} {T} {C} (hT:aU.ok P T) (hC:cK.ok P C) (hm:P.follows .mixedOrders=true) {c} {k0} {rs} {S} {o} (hSg:S.ar=[]) (h:Az T C c k0 rs S=some o)
   {ls os} (hl:ls.length=S.nv) (hF:kz (o.JT.aa ls)=some os) {X} (hP:X.P=P) (bK:X.k0=k0):Aw X c (MB P rs (o.res.aa (ls++os)) (o.out.aa (ls++os))) (S.aa ls):=by
 unfold Az at h;split at h
 · rename_i t ht;split at h
   · rename_i S' HA;split at h
     · rename_i u r hu hr;cases h;have CC:=lM hT hC hm c (S:=S) hSg ht;simp only[kz]at hF;split at hF
       · rename_i k aq ρ' hd;cases hF;obtain⟨e,S1,br,v,h1,h2,h3⟩:=rN (fun x br hx=> (CC ls x br hl hx).bare) (fun e S1 br ht d u1 hf=>P0 hf) hu hd;obtain⟨e',rh,g1,g2,⟨ys,g3⟩,g4,g5⟩:=CC ls _ _ hl h1;cases g1;subst g3;have key:(e= .normal∨e= .ret)∧∀X:Fx,X.P=P→X.k0=k0→Le X (S1.aa (ls++ys)) (S'.aa (ls++aq.map (At.ev ρ'))):=by
           cases e with
           |exit=>cases h2
           |_=>
            obtain⟨aq',zs,j1,_,_,j4⟩:=km hT hl g2 g4 h2 h3;cases j1;exact⟨by simp,j4⟩
         obtain⟨he,hle⟩:=key;refine uC (g5 X hP bK _ ⟨_,hle X hP bK,?_⟩);refine⟨?_,UE hT hr,fun n b lC=> ?_⟩;rotate_left
         · rw[dE];rw[bY.ED]at lC;simp only[aT]at lC;obtain⟨b0,hb0,rfl⟩:=lC;rw[Ew hb0];rfl
         rcases he with rfl|rfl<;>trivial
       · cases hF
     · cases h
   · cases h
 · cases h
def C.dB (rows:List (List PV)):C→Option C
 | .own 0=>some (.p (.sl rows))
 | .p q=>some (.p q)
 | .nil=>some .nil
 |_=>none
def V1.dB (rows:List (List PV)):V1→Option V1
 | .c y=> (y.dB rows).map .c
 | .agg cs=> (cs.mapM (C.dB rows)).map .agg
def V.dB (rows:List (List PV)):V→Option V
 | .v x=> (x.dB rows).map .v
 | .aj xs=> (xs.mapM (V1.dB rows)).map .aj
theorem mapM_at {α β:Type} {f}:∀{l:List α} {m},l.mapM f=some m→m.length=l.length∧∀(i:Nat) (y:β),m[i]? =some y→∃x,l[i]? =some x∧f x=some y
 |[],m,h=>by simp at h;subst h;simp
 | a::l,m,h=>by
  cases h1:f a with
  |none=>simp[h1]at h
  | some b=>
   cases h2:l.mapM f with
   |none=>simp[h1,h2]at h
   |some bs=>
    simp[h1,h2]at h;subst h;obtain⟨k1,k2⟩:=mapM_at h2;refine⟨by simp[k1],fun i y hy=> ?_⟩
    match i with
    |0=>simp at hy;subst hy;exact⟨a,rfl,h1⟩
    |i+1=>simpa using k2 i y hy
theorem eJ.dB {P} {f} {args} {e} {rows} {r r'} (h:eJ P f args [] r [(0,.row e rows)]) (hz:r.dB rows=some r'):eJ P f args [] r' []:=by
 refine⟨h.own,fun w M N vals h1 h2 h3 h4 h5 h6 h7=> (h.call w M N vals h1 h2 h3 h4 h5 h6 h7).mono ?_⟩;rintro _ w' ⟨v,E',rfl,ja,fj,hH,hv⟩;obtain⟨x,cur,fz,k1,bX,k2,k3,k4,k5,k6,k7,k8,k9,i_,ly⟩:=hH 0 _ rfl;have hst:h_ (bad M E') (bad M ⟨fun _=>none,[]⟩) w' w':=fun g o u q1 q2=> ⟨q1,fun q3=>q2 (by
  rcases q3 with q3| ⟨n,z,q4,_⟩
  · exact .inl q3
  · cases q4)⟩
 have hC :∀c c' u,RC M E' w' c u→c.dB rows=some c'→RC M ⟨fun _=>none,[]⟩ w' c' u:=fun c c' v hc hf=>by
  unfold C.dB at hf;split at hf
  · cases hf;obtain⟨y,j1,j2⟩:=bO.get (show RC M E' w' (.own 0) v from hc) (by rw[fj.ar];simp);rw[k1]at j1;cases j1;rw[j2];by_cases h0:rows=[]
    · subst h0;rw[k3];exact .nil
    · cases hg:x.g with
      |none=>
       have:=i_ hg;have:rows.length=0:=om;exact absurd (ni this) h0
      |some g=>
       have hr:=Mv (M:=bad M E') (o:=0) (k2 g hg) om k5 k9 (fun i r j p hi hj=>by simpa using ly i r j p hi hj);rw[k3];refine Rows.rp hr (fun g' hg'=>by
         rcases hg' with q| ⟨n,z,q,_⟩
         · exact .inl q
         · cases q) ?_
       rintro g' o n c he hb;obtain⟨⟨rfl,rfl⟩,_⟩:=he;rcases hb with hb| ⟨n,z,q,_⟩
       · have:=h1 g hb;rcases(fj.names 0 x g k1 hg).2 with⟨m,z,q,_⟩|q
         · exact absurd (h2 m z q) (zo m)
         · omega
       · cases q
  · cases hf;exact RP.trans hc hst
  · cases hf;exact hc
  · cases hf
 have hV1:∀c c' u,db M E' w' c u→c.dB rows=some c'→db M ⟨fun _=>none,[]⟩ w' c' u:=fun c c' v hc hf=>by
  cases c with
  | c c=>
    simp only[V1.dB,aT]at hf;obtain⟨d,hd,rfl⟩:=hf;exact hC _ _ _ hc hd
  | agg cs=>
    simp only[V1.dB,aT]at hf;obtain⟨d,hd,rfl⟩:=hf;obtain⟨us,rfl,hsz,fi⟩:=hc;obtain⟨m1,m2⟩:=mapM_at hd;refine⟨us,rfl,by rw[m1];exact hsz,fun i c hi=> ?_⟩;obtain⟨c0,e0,e1⟩:=m2 i c hi;obtain⟨u,q1,q2,q3⟩:=fi i c0 e0;exact⟨u,q1,hC _ _ _ q2 e1,q3⟩
 refine⟨v,⟨fun _=>none,[]⟩,rfl,ja,⟨rfl,fun n z g hz=> (by cases hz),fun n m z z' g hz=> (by cases hz),fun m hm=>absurd hm (zo m)⟩,fun n b hb=> (by cases hb),?_⟩
 cases r with
 |v c=>
  simp only[V.dB,aT]at hz;obtain⟨d,hd,rfl⟩:=hz;exact hV1 _ _ _ hv hd
 |aj xs=>
  simp only[V.dB,aT]at hz;obtain⟨d,hd,rfl⟩:=hz;obtain⟨us,rfl,hsz,fi⟩:=hv;obtain⟨m1,m2⟩:=mapM_at hd;refine⟨us,rfl,by rw[m1];exact hsz,fun i c hi=> ?_⟩;obtain⟨c0,e0,e1⟩:=m2 i c hi;obtain⟨u,q1,q2⟩:=fi i c0 e0;exact⟨u,q1,hV1 _ _ _ q2 e1⟩
def SC.dB (x:At):SC→SC
 | .own 0=> .p .sl x
 |c=>c
def aF.dB (x:At):aF→aF
 | .c y=> .c (y.dB x)
 | .agg cs=> .agg (cs.map (SC.dB x))
def SV.dB (x:At):SV→SV
 | .v y=> .v (y.dB x)
 | .aj ys=> .aj (ys.map (aF.dB x))
def SC.nC:SC→Bool
 | .own 0=>true| .p _ _=>true| .nil=>true|_=>false
def aF.nC:aF→Bool
 | .c y=>y.nC| .agg cs=>cs.all SC.nC
def SV.nC:SV→Bool
 | .v y=>y.nC| .aj ys=>ys.all aF.nC
theorem mapM_map {α α' β β':Type} {g} {g'} {F:β→Option β'} {s:α→α'} {l:List α} (h:∀a∈l,F (g a)=some (g' (s a))):(l.map g).mapM F=some ((l.map s).map g'):=by
 induction l with
 |nil=>rfl
 |cons a l ih=>simp[rE,h a iL,ih fun b hb=>h b (iM _ hb)]
theorem SC.tV {ρ} {x} {c:SC} (h:c.nC=true):(c.aa ρ).dB (x.ev ρ).az=some ((c.dB x).aa ρ):=by
 unfold SC.nC at h;split at h<;>first|rfl|cases h
theorem aF.tV {ρ} {x} {c:aF} (h:c.nC=true):(c.aa ρ).dB (x.ev ρ).az=some ((c.dB x).aa ρ):=by
 cases c with
 |c c=>show(C.dB _ _).map _=_;rw[SC.tV h];rfl
 |agg cs=>show Option.map _ (List.mapM _ (List.map _ _))=_;rw[mapM_map (s:=SC.dB x) (g':=SC.aa ρ) fun a ha=>SC.tV (bC.1 h a ha)];rfl
theorem SV.tV {ρ} {x} {c:SV} (h:c.nC=true):(c.aa ρ).dB (x.ev ρ).az=some ((c.dB x).aa ρ):=by
 cases c with
 |v c=>show(V1.dB _ _).map _=_;rw[aF.tV h];rfl
 |aj cs=>show Option.map _ (List.mapM _ (List.map _ _))=_;rw[mapM_map (s:=aF.dB x) (g':=aF.aa ρ) fun a ha=>aF.tV (bC.1 h a ha)];rfl
theorem B3 {P} {s:au} (h:s.ok P) (hH:s.H=[]) {x} {e} (hr:s.res.nC=true) (ho:s.out=[(0,.row e x)]) (tag):
  au.ok P ⟨s.f,s.params,[],s.cY,s.iF,s.res.dB x,[],s.F,tag⟩:=by
 intro ls os hl hF cg;have:=h ls os hl hF cg;rw[hH,ho]at this;exact eJ.dB this (SV.tV hr)
def awa (b:Bool):af:=⟨[.v (.c (.p .sl (.v 0))),.aj [],.v (.c .nil),.v (.c (.p .sl (.v 0))),.v (.c (.p .bool (.b b))),.aj [],.aj [],.aj []],[],[],8,1⟩
def ajP : Code :=
          (Code.region 3
                #[{ dst :=some 5,op:=Op.buildSlice 89 0 #[],type:=89,pos:= "slices.go:362",after:= #[],
                    guard:=none},
                  { dst:=some 6,op:=Op.move (Operand.tmp 0),type:=89,pos:= "slices.go:362",after:= #[],
                    guard:=none},
                  { dst :=some 7,
                    op:=
                      Op.call
                        { callee:=Callee.builtin Builtin.append,args:= #[Operand.tmp 5,Operand.tmp 6],
                          argTypes:= #[89,89]},
                    type:=89,pos:= "slices.go:362",
                    after:= #[{on:=0,ground:=Ground.data},{on:=1,ground:=Ground.data}],guard:=none},
                  { dst :=some 2,op:=Op.assign (Operand.tmp 7),type:=89,pos:= "slices.go:362",
                    after:=
                      #[{on:=2,ground:=Ground.data},{on:=2,ground:=Ground.chain},
                        {on:=0,ground:=Ground.phase},{on:=1,ground:=Ground.phase},
                        {on:=2,ground:=Ground.phase}],
                    guard:=none}]
                false).seq
            Code.ret
def MO:ae:= .op (.lit []) (.op (.app (.v 1) (.v 0) 4 32) (.ak (.jump 0 [(.v 2)])))
theorem anJ:Az TT [] ajP 0 [.tmp 2] (awa false)=some ⟨MO,(.v (.c (.own 0))),[(0,(.row 25 (.v 1)))],1⟩:=kr
theorem azI (rows) (hR:bu 4 rows=true) (hb:rows.length*32≤140737488355328):
    eJ Tryz.prog 246 [.c (.p (.sl rows))] [] (.v (.c (.own 0))) [(0,.row 25 rows)]:=by
  refine eJ.intro Tryz.func246 kr rfl rfl rfl fun X hP bK=>uC ?_
  refine fJ ?_;refine uj (Sp:=fun _=>none) rfl rfl ?_;refine fJ ?_;refine fJ ?_;refine Jw (rows:=rows) (e:=25) rfl (by show 3<8;decide) (by rw[hP];exact Tryz.underlying89) ?_;intro b gH;refine u9 (t:=b) rfl (fun h=> ?_) (fun h=> ?_)
  · subst h;cases gH rfl;refine fJ (uj (Sp:=fun _=>none) rfl rfl (tN ?_));refine⟨⟨[.v (.c .dead),.v (.c .dead),.v (.c (.own 0)),.v (.c .dead),.v (.c .dead),.v (.c .dead),.v (.c .dead),.v (.c .dead)],[(0,.row 25 [])],[],16⟩,nJ.le (ι:=[]) (Z:=[0]) rfl ?_,trivial,rfl,fun n b h=>h⟩;have CD:X.k0=0:=bK;rw[CD,hP];exact{
            ar:=rfl,old:=by simp[Ren.old],new:=by simp[Ren.new],zs:=fun n hn=>by
              simp at hn;subst hn;exact⟨by simp[Ren.new],fm _,by simp,25,rfl,dG kr⟩
            lt:=fun x hx=>by simp at hx
            k0:=fm _
            tmps:=by
              refine⟨trivial,trivial,?_,trivial,trivial,trivial,trivial,trivial,trivial⟩;exact tn.2 rfl
            heap:=fun n b h=> .inl (by
              simp only[gW,oq]at h;split at h
              · rename_i hn;simp at hn;subst hn;simp
              · cases h)}
  · subst h;refine Dz ?_;have hd:kz (MO.aa [.r rows])=some [.r rows]:=by
      simp[MO,ae.aa,Nd.ev,At.ev,L.az,kz];rw[ay ⟨om,hb,rfl,hR⟩];rfl
    refine lN (Mi fO .nil BH rfl anJ (ls:=[.r rows]) (os:=[.r rows]) rfl hd hP bK) fun e st h=> ⟨st,fun _ _ h=>h,h⟩
def qE:List L→Option (List L):=fun ls=>match ls with
  |[.r rows]=>if bu 4 rows=true∧rows.length*32≤140737488355328 then some []else none
  |_=>none
def ams:au:=⟨246,[.c (.p .sl U0)],[],1,0,.v (.c (.own 0)),[(0,.row 25 U0)],qE,2000⟩
theorem avY:ams.ok Tryz.prog:=by
  intro ls os hl hF cg;have hF:qE ls=some os:=hF;unfold qE at hF;split at hF
  · split at hF
    · rename_i hc;cases hF;exact azI _ hc.1 hc.2
    · cases hF
  · cases hF
theorem aoT {s:au} (h:s.ok Tryz.prog) (hH:s.H=[]) (hr:s.res= .v (.c (.sub 0 (.i 0) (.i 0)))) {x} (ho:s.out=[(0,.row 25 x)]) (tag):
    au.ok Tryz.prog ⟨s.f,s.params,[],s.cY,0,.v (.c (.own 0)),[(0,.row 25 .r0)],fun ls=>match s.F ls with|some os=>if os.length=s.iF then some []else none|none=>none,tag⟩:=by
  intro ls os hl hF cg;have hF:(match s.F ls with|some os=>if os.length=s.iF then some []else none|none=>none)=some os:=hF;split at hF
  · rename_i os' lB;split at hF
    · rename_i hlen;cases hF;have:=h ls os' hl lB hlen;rw[hH,hr,ho]at this;exact eJ.azy this
    · cases hF
  · cases hF
end
section
open Go.RowKit
namespace Sp
def oY (i j:Nat):Nat:=j/64*256+i*64+j%64
def gu (t:Nat):Nat:=t/64%4
def er (t:Nat):Nat:=t/64/4*64+t%64
def bM (L:Nat):Nat:=(L+255) /256*64
theorem ES (t):gu t<4:=by unfold gu;omega
theorem aeR {i j t p} (hi:i<4) (hp:t%64+p≤64):(t≤oY i j∧oY i j<t+p) ↔ (i=gu t∧er t≤j∧j<er t+p):=by
 unfold oY gu er;omega
theorem Q4 {j t p} (hp:t%64+p≤64) (h:er t≤j∧j<er t+p):oY (gu t) j=t+(j-er t):=by
 grind[oY,gu,er]
theorem axU {L t p} (hp:t%64+p≤64) (h:t+p≤L):er t+p≤bM L:=by
 unfold er bM;omega
def fill (f:Nat→Int) (t i j:Nat):Int:=if oY i j<t then f (oY i j)else 0
theorem auf (f) (i j):fill f 0 i j=0:=by simp[fill]
theorem arS (f) {t p i j} (hi:i<4) (hp:t%64+p≤64):
   fill f (t+p) i j=if i=gu t∧er t≤j∧j<er t+p then f (t+(j-er t))else fill f t i j:=by
 have h1:=aeR (j:=j) hi hp;unfold fill;by_cases hc:i=gu t∧er t≤j∧j<er t+p
 · obtain⟨rfl,h2⟩:=hc;have h3:=Q4 hp h2;simp_all
 omega
def Tw (w:a7) (A:Option Addr) (len:Nat) (f:Nat→Int):Prop:=
 0<len→∃g o,A=some ⟨g,o,none⟩∧∀i,i<len→w.cell? ⟨g,o+i,none⟩=some (.int .u8 (f i))
def Row (w:a7) (g m:Nat) (c:Nat→Int):Prop:=
 ∃L:List bh,w.heap[g]? =some (.cells L.toArray 5 (0,0))∧L.length=m∧∀j,j<m→L[j]? =some (.int .u8 (c j))
theorem Row.lt {w} {g m} {c} (h:Row w g m c):g<w.heap.size:=by
 obtain⟨L,h1,_⟩:=h;grind
theorem Row.dz {w w'} {g m} {c} (h:Row w g m c) (hk:w'.heap[g]? =w.heap[g]?):Row w' g m c:=by
 obtain⟨L,h1,h2⟩:=h;exact⟨L,hk.trans h1,h2⟩
theorem Row.congr {w} {g m} {c c'} (h:Row w g m c) (hc:∀j,j<m→c j=c' j):Row w g m c':=by
 obtain⟨L,h1,h2,h3⟩:=h;exact⟨L,h1,h2,fun j hj=>by simp_all⟩
theorem Row.cell {w} {g m} {c} (h:Row w g m c) {j} (hj:j<m):w.cell? ⟨g,j,none⟩=some (.int .u8 (c j)):=by
 obtain⟨L,h1,h2,h3⟩:=h;rw[cell_of_row w g j _ _ _ h1];simpa using h3 j hj
theorem Row.frozen {w} {g m} {c} (h:Row w g m c) (j):w.frozen? ⟨g,j,none⟩=false:=by
 obtain⟨L,h1,_⟩:=h;simp[World.frozen?,h1]
theorem Row.made (w:a7) (m):Row (w.alloc (.cells (madeCells (Value.int .u8 0).cells (m*1)) 5)) w.heap.size m (fun _=>0):=by
 refine⟨(madeCells (Value.int .u8 0).cells (m*1)).toList,by simpa using heap_alloc_new w _,by simp[size_madeCells],fun j hj=> ?_⟩;simp[madeCells,Value.cells,hj,Nat.mod_one]
theorem Row.set {w} {g m} {c} (h:Row w g m c) (j) (x):Row (w.setCell ⟨g,j,none⟩ (.int .u8 x)) g m (fun i=>if i=j then x else c i):=by
 obtain⟨L,h1,h2,h3⟩:=h;rw[setCell_eq_setRow w g j _ 5 (0,0) _ h1];refine⟨L.set j (.int .u8 x),by simpa using setRow_heap w g _ _ 5 (0,0) h1,by simpa using h2,fun i hi=> ?_⟩;grind
theorem Row.copy {w:a7} {g m} {c:Nat→Int} (L:List bh) (h1:w.heap[g]? =some (.cells L.toArray 5 (0,0))) (h2:L.length=m) (h3:∀j,j<m→L[j]? =some (.int .u8 (c j)))
  (off) (cs) (d:Nat→Int) (hcs:∀j,j<cs.length→cs[j]? =some (.int .u8 (d j))) (gS:off+cs.length≤m):
  Row (w.setRow g (L.take off++(cs++L.drop (off+cs.length))).toArray) g m (fun j=>if off≤j∧j<off+cs.length then d (j-off)else c j):=by
 refine⟨_,setRow_heap w g _ _ 5 (0,0) h1,by simp;omega,fun j hj=> ?_⟩;grind
theorem aAU:(Tryz.prog.info? 5).map (fun i=> (i.zero,i.size,i.bytes))=some (some (.int .u8 0),1,1):=kr
theorem aoq:(Tryz.prog.info? 71).map (fun i=> (i.zero,i.size,i.bytes))=some (some (.slice none 0 0),1,24):=kr
def xx (n:Int):Int:=if n≤0 then 0 else((n-1) /256+1)*64
theorem L3 {k} {a b} (h:a=b):Ending.returned (.int k a)= .returned (.int k b):=by rw[h]
theorem aha (n) (w) (h0: -9223372036854775808≤n) (h1:n≤9223372036854775807):
   Calls Tryz.prog 177 #[.int .i64 n] w fun e w'=>e= .returned (.int .i64 (xx n))∧w'=w:=by
 by_cases h:n<0
 · go_wp2
   go_ret
   exact⟨L3 (by unfold xx;omega),rfl⟩
 · by_cases h2:0<n%256
   · go_wp2
     go_ret
     exact⟨L3 (by unfold xx;omega),rfl⟩
   · go_wp2
     go_ret
     exact⟨L3 (by grind[xx]),rfl⟩
theorem acn (n) (w) (h0:0≤n) (h1:n≤9223372036854775807):
  Calls Tryz.prog 178 #[.int .i64 n] w fun e w'=>e= .returned (.tuple #[.int .i64 (n/64%4),.int .i64 (n/64/4*64+n%64),.int .i64 0])∧w'=w:=by
 go_wp2
 go_ret3
 simp_all
theorem ayT (L m) (w) (hL:L≤1048576) (h:bM L=m):
  Calls Tryz.prog 177 #[.int .i64 (L:Int)] w fun e w'=>e= .returned (.int .i64 (m:Int))∧w=w':=by
 refine(aha (L:Int) w om om).mono ?_;rintro e w' ⟨rfl,rfl⟩;rw[show xx (L:Int)=(bM L:Int)by grind[xx,bM],h];simp_all
theorem afK (t) (w) (ht:t≤1048576) (s a) (hs:gu t=s) (ha:er t=a):
  Calls Tryz.prog 178 #[.int .i64 (t:Int)] w fun e w'=>e= .returned (.tuple #[.int .i64 (s:Int),.int .i64 (a:Int),.int .i64 0])∧w=w':=by
 refine(acn (t:Int) w om om).mono ?_;rintro e w' ⟨rfl,rfl⟩;rw[show((t:Int) /64%4)=(gu t:Int)by unfold gu;omega,show((t:Int) /64/4*64+(t:Int)%64)=(er t:Int)by unfold er;omega,hs,ha];simp_all
theorem ajM (m:Nat) (hm:m≤1048576) (w):
  (Instr.makeSlice 71 (.int .i64 (m:Int)) (.int .i64 (m:Int))).run Tryz.prog w= .ok (.slice (some ⟨w.heap.size,0,none⟩) m m) (w.alloc (.cells (madeCells (Value.int .u8 0).cells (m*1)) 5)):=by
 obtain⟨i0,hi,hz0,hz1,hz2⟩:=info_parts aAU;have h:=run_make (P:=Tryz.prog) w 71 5 i0 (.int .u8 0) Tryz.underlying71 hi hz0 .i64 .i64 (m:Int) (m:Int) om om (by rw[hz2];omega) om;simp_all
structure rT (w:a7) (base G cap:Nat) (h:Nat→Nat) (m:Nat) (c:Nat→Nat→Int):Prop where
 head:∃cur,w.heap[G]? =some (.cells cur 71 (0,0))∧cur.size=cap∧∀i,i<4→cur[i]? =some (.slice (some ⟨h i,0,none⟩) m m)
 low:base≤G∧G<w.heap.size
 rows:∀i,i<4→base≤h i∧h i≠G∧Row w (h i) m (c i)
 apart:∀i j,i<4→j<4→h i=h j→i=j
def atE (w:a7) (m:Nat) (c:Nat→Nat→Int) (e:Ending) (w':a7):Prop:=
 ∃G cap h,e= .returned (.slice (some ⟨G,0,none⟩) 4 cap)∧4≤cap∧cap≤9223372036854775807∧rT w' w.heap.size G cap h m c∧Below w.heap.size w w'
theorem rT.cell {w} {base G cap} {h} {m} {c} (hS:rT w base G cap h m c) {i} (hi:i<4):w.cell? ⟨G,i,none⟩=some (.slice (some ⟨h i,0,none⟩) m m):=by
 obtain⟨cur,h1,_,h2⟩:=hS.head;rw[cell_of_row w G i cur 71 (0,0) h1];exact h2 i hi
theorem Row.alj (w:a7) (m):Row (w.alloc (.cells (madeCells #[Value.int .u8 0] m) 5)) w.heap.size m (fun _=>0):=by
 have:=Row.made w m
 rwa [Po]at this
def pk (h:Nat→Nat) (m k:Nat):List bh:=(List.range k).map fun i=> .slice (some ⟨h i,0,none⟩) m m
theorem asr (h) (m k g):pk (fun i=>if i=k then g else h i) m (k+1)=pk h m k++ [.slice (some ⟨g,0,none⟩) m m]:=by
 unfold pk;rw[H6,dk];congr 1
 · apply fK;grind
 · simp
theorem aex (h) (m k) {i} (hi:i<k):(pk h m k)[i]? =some (.slice (some ⟨h i,0,none⟩) m m):=by simp[pk,hi]
theorem awW (W:a7) (C) (x):∀j u,[x][j]? =some u→((W.alloc (.cells C 5)).alloc (.cells #[x] 71)).cell? ((⟨W.heap.size+1,0,none⟩:Addr).add j)=some u:=by
 have:=World.news_of_block (w:=(W.alloc (.cells C 5)).alloc (.cells #[x] 71)) (heap_alloc_new _ _);simp_all
def Fh (w:a7) (m k:Nat) (v:bh) (W:a7):Prop:=
 ∃h:Nat→Nat,W.ownsRow w.heap.size 71 1 v k (pk h m k)∧(∀i,i<k→w.heap.size≤h i∧Row W (h i) m (fun _=>0))∧(∀i j,i<k→j<k→h i=h j→i=j)∧Below w.heap.size w W
theorem Fh.step {w W w1} {m k} {v v'} {X} {h} (hrow:W.ownsRow w.heap.size 71 1 v k (pk h m k)) (hr:∀i,i<k→w.heap.size≤h i∧Row W (h i) m (fun _=>0))
   (ha:∀i j,i<k→j<k→h i=h j→i=j) (hB:Below w.heap.size w W)
   (hown':w1.ownsRow w.heap.size 71 1 v' (k+1) (pk h m k++ [.slice (some ⟨W.heap.size,0,none⟩) m m]))
   (hgrow:((W.alloc (.cells (madeCells #[Value.int .u8 0] m) 5)).alloc X).grownBy w1 v.ownBlock):Fh w m (k+1) v' w1:=by
 have o1:∀j,j<W.heap.size→((W.alloc (.cells (madeCells #[Value.int .u8 0] m) 5)).alloc X).heap[j]? =W.heap[j]?:=fun j hj=>
   (Below.heap_alloc _ _ _ (by simp;omega)).trans (Below.heap_alloc _ _ _ hj)
 have hne:∀j c,Row W j m c→some j≠v.ownBlock:=by
   rintro j c ⟨Lj,h1,_⟩ e;rcases hrow.2 with⟨rfl,_⟩| ⟨g,cap,cur,rfl,_,hg,_⟩
   · simp[Value.ownBlock]at e
   · obtain rfl:j=g:=by simpa[Value.ownBlock]using e
     simp_all
 have ic:Row ((W.alloc (.cells (madeCells #[Value.int .u8 0] m) 5)).alloc X) W.heap.size m (fun _=>0):=(Row.alj W m).dz (Below.heap_alloc _ _ _ (by simp));refine⟨fun i=>if i=k then W.heap.size else h i,by rw[asr];exact hown',fun i hi=> ?_,fun i j hi hj e=> ?_,?_⟩
 · show w.heap.size≤(if i=k then W.heap.size else h i)∧Row w1 (if i=k then W.heap.size else h i) m _;by_cases hik:i=k
   · rw[ay hik];refine⟨hB.size,ic.dz (hgrow.block _ (by simp;omega) (fun e=> ?_))⟩;have:=hrow.lt _ e.symm;omega
   · rw[aC hik];obtain⟨h1,h2⟩:=hr i om;exact⟨h1,h2.dz ((hgrow.block _ (by have:=h2.lt;simp;omega) (hne _ _ h2)).trans (o1 _ h2.lt))⟩
 · simp only at e;by_cases hik:i=k<;>by_cases hjk:j=k
   · omega
   · rw[ay hik,aC hjk]at e;have:=(hr j om).2.lt;omega
   · rw[aC hik,ay hjk]at e;have:=(hr i om).2.lt;omega
   grind
 · exact((hB.alloc hB.size _).alloc (by have:=hB.size;simp;omega) _).grown hgrow (by have:=hB.size;simp;omega) (fun r e=> (hrow.lt r e).1)
theorem rT.step {W} {base G cap} {h} {m t s a} {f} (hS:rT W base G cap h m (fill f t)) (hs:gu t=s) (ha:er t=a) (N):
   rT ((W.drewN N).setCell ⟨h s,a,none⟩ (.int .u8 (f t))) base G cap h m (fill f (t+1)):=by
 have Cy:=ES t;rw[hs]at Cy;have hst:∀i j,i<4→fill f (t+1) i j=if i=s∧a≤j∧j<a+1 then f (t+(j-a))else fill f t i j:=fun i j hi=>by
   have:=arS f (t:=t) (p:=1) (i:=i) (j:=j) hi om;simp_all
 have hGn:G≠h s:=fun e=> (hS.rows s Cy).2.1 e.symm
 obtain⟨cur,hh1,hh2,hh3⟩:=hS.head;refine⟨⟨cur,?_,hh2,hh3⟩,⟨hS.low.1,by simpa[World.setCell]using hS.low.2⟩,fun i hi=> ?_,hS.apart⟩
 · simp_all[Below.heap_setCell]
 · obtain⟨h1,h2,h3⟩:=hS.rows i hi;refine⟨h1,h2,?_⟩;by_cases his:i=s
   · subst his;refine(Row.set (w:=W.drewN N) h3 a (f t)).congr fun j _=> ?_
     grind
   · refine(h3.dz (Below.heap_setCell (W.drewN N) _ _ _ (fun e=>his (hS.apart i s hi Cy e)))).congr fun j _=> ?_
     simp_all
set_option maxRecDepth 100000 in
set_option maxHeartbeats 1000000 in
theorem acs (A) (L cap) (f) (w) (hL:L≤1048576) (hb:Tw w A L f):
  Calls Tryz.prog 127 #[.slice A L cap] w (atE w (bM L) (fill f L)):=by
 obtain⟨i0,hi,hz0,hz1,hz2⟩:=info_parts aoq;obtain⟨m,hm⟩:∃m,bM L=m:=⟨_,rfl⟩
 have On:m≤1048576:=by grind[bM]
 have vW:=ajM m On;have Hm:=Lib.hid hm;rw[hm];clear hm
 go_enter Tryz.func127,Tryz.ntmps127
 go_wp2_with fail
 go_loopw [3,4] (fun v i W=>∃k:Nat,k≤4∧i= .int .i64 k∧Fh w m k v W) (fun _ i _=>4- (intOf i).toNat)
 case atStart=>exact⟨0,om,rfl,fun _=>0,World.ownsRow_nil _ _ _ _,fun i hi=>absurd hi om,fun i j hi=>absurd hi om,Below.refl _ _⟩
 case round=>
  obtain⟨k,hk,rfl,h,hrow,hr,ha,hB⟩:=hrel;have hBs:=hB.size;by_cases hlt:k<4
  · go_wp2_with (first| (go_at_call 177;refine(ayT L m _ hL Hm.out).mono ?_;rintro e w' ⟨rfl,rfl⟩)| (at_builtin;go_must (refine wpList_append_own _ rfl _ _ 149 rfl w.heap.size 71 i0 (.slice none 0 0) 1 24 Tryz.underlying149 hi hz0 hz1 hz2 rfl dc _ _ _ rfl ((hrow.alloc _).alloc _) ⟨wr.heap.size+1,0,none⟩ 1 1 [.slice (some ⟨wr.heap.size,0,none⟩) m m] rfl rfl (awW _ _ _) (by simp[Value.oneCell']) (by unfold maxLen;omega) om (by simp;omega) ?_);intro v' w1 hown' hgrow _))
    go_roundw
    case rel=>exact⟨k+1,om,by go_num,Fh.step hrow hr ha hB hown' hgrow⟩
    case measure=>simp[intOf];omega
  · obtain rfl:k=4:=om;obtain⟨G,c4,aCK,rfl,hG1,OH,Hx,aaC,hG5,hG6⟩:=hrow.2.resolve_left (fun h=>absurd h.2 om);have aCN:c4≤9223372036854775807:=by simp only[maxLen]at aaC;omega
    have hG2:=(fc.1 OH).1;have hG4:True:=trivial;have hS0:rT wr w.heap.size G c4 h m (fill f 0):=by
     refine⟨⟨aCK,OH,om,fun i hi=>by
       have:=aex h m 4 hi;grind⟩,⟨hG1,hG2⟩,fun i hi=> ⟨(hr i hi).1,?_,(hr i hi).2.congr fun j _=> (auf f i j).symm⟩,ha⟩
     rintro rfl;obtain⟨Lj,h1,_⟩:=(hr i hi).2;simp_all
    clear hrow hr ha hG1 hG2 OH hG4 hG5 hG6 aaC vW
    go_wp2_with fail
    simp only[abR]
    go_loopw [5] (fun i W=>∃t:Nat,t≤L∧i= .int .i64 t∧rT W w.heap.size G c4 h m (fill f t)∧Below w.heap.size w W) (fun i _=>L- (intOf i).toNat)
    case atStart=>grind
    case round=>
     obtain⟨t,ht,rfl,hS,hB⟩:=hrel;by_cases vS:t<L
     · obtain⟨ga,oa,rfl,hfb⟩:=hb om;have n_:=ES t;have gS:er t+1≤m:=by have:=axU (L:=L) (t:=t) (p:=1) om om;have:=Hm.out;omega
       obtain⟨hr1,hr2,hr3⟩:=hS.rows (gu t) n_;have d0:=hS.cell n_;have d1:=hr3.cell (j:=er t) om;have d2:=hr3.frozen (er t);have d3:wr.cell? ⟨ga,oa+t,none⟩=some (.int .u8 (f t)):=(hB.cell (p:=⟨ga,oa+t,none⟩) (World.block_lt_of_cell? w _ (hfb t vS))).trans (hfb t vS);generalize ma:gu t=sn at*;generalize han:er t=an at*;have Hsn:=Lib.hid ma;have Han:=Lib.hid han;have i1:(sn:Int)<4:=om;have i3:(an:Int)< (m:Int):=om
       go_wp2_with (go_at_call 178;refine(afK t _ om sn an Hsn.out Han.out).mono ?_;rintro e w' ⟨rfl,rfl⟩)
       go_still_tail 10,kr
       go_wp2
       go_roundw
       case rel=>exact⟨t+1,om,by go_num,hS.step Hsn.out Han.out 1,(hB.setCell (p:=⟨h sn,an,none⟩) (hS.rows sn n_).1 _).drew⟩
       case measure=>simp[intOf];omega
     · obtain rfl:t=L:=om
       go_wp2
       go_ret
       exact⟨G,c4,h,rfl,Hx,aCN,hS,hB⟩
def BI (b:List Int) (i:Nat):List PV:=[.sl (gO ((List.range (bM b.length)).map fun j=>fill (fun t=> (b[t]?).getD 0) b.length i j))]
def tC (b:List Int):List (List PV):=(List.range 4).map (BI b)
theorem afo {M} {w} {b} {v} (h:RP M w (.sl (gO b)) v):∃A cap,v= .slice A b.length cap∧b.length≤cap+b.length∧(b.length=0∨b.length≤cap∧cap≤maxLen)∧Tw w A b.length (fun t=> (b[t]?).getD 0):=by
 rcases RP.rows h with⟨h0,A,cap,rfl⟩| ⟨g,o,cap,sz,f,rfl,h0,hl,hm,hR,hc⟩
 · have:b=[]:=by cases b with|nil=>rfl|cons=>simp[gO]at h0
   subst this;exact⟨A,cap,rfl,by simp,.inl rfl,fun h=>absurd h (by simp)⟩
 · rw[KX];rw[KX]at hl;refine⟨_,cap,rfl,om,.inr ⟨hl,hm⟩,fun hp=> ⟨g,o,rfl,fun i hi=> ?_⟩⟩;have hsz:sz=1:=by
    have hr:=bW (l:=gO b) (i:=i) (by rw[KX];exact hi);rw[←hR _ (dn hr),Xy b _ (dn hr)]
   subst hsz;have hb:b[i]? =some b[i]:=bW hi;obtain⟨h1,h2⟩:=hc i [.sc (.int .u8 b[i])] 0 (.sc (.int .u8 b[i])) (by rw[Tz,hb];rfl) rfl;rw[RP.dy h2]at h1;simp_all
theorem ajE {M} {w} {g m} {c} (h:Row w g m c) (hM:¬M g) (hm:m≤maxLen):RP M w (.sl (gO ((List.range m).map c))) (.slice (some ⟨g,0,none⟩) m m):=by
 by_cases h0:m=0
 · subst h0;exact .nil
 · have hl:(gO ((List.range m).map c)).length=m:=by simp[gO]
   have hg:∀(i:Nat) (r:List PV),(gO ((List.range m).map c))[i]? =some r→i<m∧r=[.sc (.int .u8 (c i))]:=by
     intro i r hi;have hlt:i<m:=by grind
     rw[Tz,bV,wq hlt]at hi;simp_all
   rw[show(Value.slice (some ⟨g,0,none⟩) m m)= .slice (some ⟨g,0,none⟩) (gO ((List.range m).map c)).length m by rw[hl]];refine .row (sz:=1) (f:=fun i _=> .int .u8 (c i)) (by grind) om hm (Xy _) (fun i r j p hi hj=> ?_) (fun i r j p hi hj=> ?_)
   · obtain⟨h1,rfl⟩:=hg i r hi;have vN:j=0:=by grind
     subst vN;refine⟨?_,hM⟩;have:=h.cell h1;simpa using this
   · obtain⟨h1,rfl⟩:=hg i r hi;have vN:j=0:=by grind
     subst vN;simp at hj;subst hj;exact .sc rfl
theorem ahk (b) (hb:b.length≤1048576):eJ Tryz.prog 127 [.c (.p (.sl (gO b)))] [] (.v (.c (.own 0))) [(0,.row 71 (tC b))]:={
 own:=⟨_,Tryz.func127,by kernel_rfl,rfl⟩
 call := fun w M N vals h1 h2 h3 h4 h5 h6 h7=>by
  obtain⟨v,s_,hv2⟩:=h7 0 _ rfl;have qR:vals= #[v]:=by
    grind
  subst qR;obtain⟨A,cap,rfl,_,jB,hB⟩:=afo (show RP _ w (.sl (gO b)) v from hv2);refine(acs A b.length cap _ w hb hB).mono ?_;rintro e w' ⟨G,c4,hh,rfl,k1,k2,hS,aCQ⟩;obtain⟨cur,q1,q2,q3⟩:=hS.head;have aFf:=hS.low;have iI:∀g,w.heap.size≤g→g≠G→¬bad M ⟨fun n=>if n=0 then some ⟨some G,4,c4,1⟩else none,[]⟩ g:=by
    rintro g hg hne (hb| ⟨n,x,hn,hx⟩)
    · grind
    grind
  refine⟨_,⟨fun n=>if n=0 then some ⟨some G,4,c4,1⟩else none,[]⟩,rfl,Frame.Gr aCQ,⟨rfl,?_,?_,fun m hm=>absurd hm (zo m)⟩,?_,?_⟩
  · grind
  · simp_all
  · intro n bl hbl;simp only[gW,oq]at hbl;split at hbl
    · rename_i hn;simp at hn;subst hn;cases hbl;refine⟨⟨some G,4,c4,1⟩,cur,(0,0),by simp,.inl rfl,fun g hg=>by cases hg;exact q1,by simp[tC],k1,by simp only[maxLen];omega,by simp only;omega,by kernel_rfl,by simp only;omega,fun r hr=> ?_,fun h=> (by cases h),fun i r j p hi hj=> ?_⟩
      · simp only[tC,fe]at hr;obtain⟨i,_,rfl⟩:=hr;rfl
      · have HC:i<4:=by
         grind[tC]
        simp only[tC,bV,wq HC,aV,jd]at hi;subst hi;have vN:j=0:=by cases j with|zero=>rfl|succ j=>simp[BI]at hj
        subst vN;simp[BI]at hj;subst hj;obtain⟨r1,r2,r3⟩:=hS.rows i HC;have hm:bM b.length≤maxLen:=by simp only[maxLen];unfold bM;omega
        simp_all[ajE]
    · cases hbl
  · exact .inr ⟨⟨some G,4,c4,1⟩,by simp,rfl⟩}
end Sp
theorem ann {rows}:∀{b},ny rows=some b→rows=gO b:=by
 induction rows with
 |nil=>intro b h;simp[ny]at h;subst h;rfl
 | cons r rows ih=>
  intro b h;simp only[ny,rE]at h
  cases hr:xp r with
  |none=>simp[hr]at h
  | some n=>
   cases hs:rows.mapM xp with
   |none=>simp[hr,hs]at h
   |some ns=>
    simp[hr,hs]at h;subst h;rw[ih (b:=ns) hs];unfold xp at hr;split at hr
    · cases hr;rfl
    · cases hr
noncomputable def wz:List L→Option (List L):=fun ls=>match ls with
 |[l]=>match ny l.az with
  |some b=>if b.length≤1048576 then some [.r (Sp.tC b)]else none
  |none=>none
 |_=>none
def ahy:au:=⟨127,[.c (.p .sl U0)],[],1,1,.v (.c (.own 0)),[(0,.row 71 U1)],wz,2003⟩
theorem aqf:ahy.ok Tryz.prog:=by
 intro ls os hl hF cg;have hF:wz ls=some os:=hF;unfold wz at hF;split at hF
 · split at hF
   · rename_i b hb;split at hF
     · rename_i hc;cases hF;have:=Sp.ahk b hc;rw[←ann hb]at this;exact this
     · cases hF
   · cases hF
 · cases hF
end
section
open Go.RowKit Go.Shelf
attribute [local go_sem] Oper.semAt_some
set_option maxRecDepth 100000 in
set_option maxHeartbeats 1000000 in
theorem anZ (m) (hm:1≤m) (l gB N) (hN:N≤4611686018427387904) (J:Nat→a7→Prop)
  (hJ:∀k W,J k W→k≤N→∃A cap,W.cell? ⟨gB,0,none⟩=some (.slice A N cap)∧(k<N→∃(g o:Nat) (f:Nat→bh),A=some ⟨g,o,none⟩∧(∀j,j<14→W.cell? ⟨g,o+(N-1-k)*14+j,none⟩=some (f j))∧
    YieldAt Fence.wide (m-1) Tryz.prog l #[.int .i64 ((N-1-k:Nat):Int),.agg #[f 0,f 1,f 2,f 3,f 4,f 5,f 6,f 7,f 8,f 9,f 10,f 11,f 12,f 13]] W (fun e W'=>e= .returned (.bool true)∧J (k+1) W')))
  (W) (h0:J 0 W):
  CallsIn Fence.wide m Tryz.prog 169 #[.func (.yield l) #[] #[],.pointer (some ⟨gB,0,none⟩)] W fun e W'=> (∃v,e= .returned v)∧J N W':=by
 obtain⟨A0,aaF,hc0,_⟩:=hJ 0 W h0 (fm _);refine callsIn_of_wp Tryz.func169 rfl trivial ?_ rfl;simp only[Tryz.ntmps169,rC,ir,nj,Nat.reduceAdd,Nat.reduceSub,PD,PE,PF,PG,mm,tg]
 gi_wp2
 gi_loopw [3] (fun i wr=>∃(k:Nat) (q:Int),k≤N∧i= .int .i64 q∧Hid (q=(N:Int) -1-k)∧J k wr) (fun i _=> (intOf i+1).toNat)
 case atStart=>exact⟨0,_,fm _,rfl,by show _=_;simp,h0⟩
 case round=>
  obtain⟨k,q,hk,rfl,hq,hJk⟩:=hrel;clear hc0 h0;obtain⟨A,cap,hc,hr⟩:=hJ k wr hJk hk;by_cases hlt:k<N
  · obtain⟨g,o,f,rfl,hf,hY⟩:=hr hlt;obtain⟨p,hp⟩:∃p,N-1-k=p:=⟨_,rfl⟩
    rw[hp]at hf hY;obtain rfl:q=(p:Int):=by have:=hq.out;omega
    obtain⟨fn,tmps,assign,body,hy,hR⟩:=hY;have d0:=hf 0 om;have d1:=hf 1 om;have d2:=hf 2 om;have d3:=hf 3 om;have d4:=hf 4 om;have d5:=hf 5 om;have d6:=hf 6 om;have d7:=hf 7 om;have d8:=hf 8 om;have d9:=hf 9 om;have d10:=hf 10 om;have d11:=hf 11 om;have d12:=hf 12 om;have d13:=hf 13 om;simp only[kS]at d0;generalize f 0=f0 at*;generalize f 1=f1 at*;generalize f 2=f2 at*;generalize f 3=f3 at*;generalize f 4=f4 at*;generalize f 5=f5 at*;generalize f 6=f6 at*;generalize f 7=f7 at*;generalize f 8=f8 at*;generalize f 9=f9 at*;generalize f 10=f10 at*;generalize f 11=f11 at*;generalize f 12=f12 at*;generalize f 13=f13 at*;have hp0:(0:Int)≤(p:Int):=om;have hpN:(p:Int)< (N:Int):=om;clear hf hJ
    gi_wp2
    refine hR.mono ?_;rintro e W3 ⟨rfl,hJ3⟩
    gi_wp2
    go_roundw
    case rel=>exact⟨k+1,_,om,rfl,by show _=_;omega,hJ3⟩
    case measure=>simp[intOf]
  · obtain rfl:k=N:=om;have hq0:q<0:=by have:=hq.out;omega
    gi_wp2
    go_end0
    exact⟨⟨_,rfl⟩,hJk⟩
end
section
open Go.RowKit
open Classical
section
variable {l n:Nat} {P:bB} {Q:Exit→Act→a7→Prop}
theorem asz {m} {row} {args} {w} {R} (h:Go.Rows P row args w R):RowsIn (Fence.wide.inRound l) m P row args w R:=fun c cs _=>by
 obtain⟨v,w',r,s⟩:=h c cs;exact⟨v,w',r,stepsIn_wide.2 s⟩
theorem akg {o:Oper} {a} {w} {K} (hd:∀c,o.op≠ .defer c) (h:o.wp P a w K Q):o.wpIn (Fence.wide.inRound l) n P a w K Q:=by
 unfold Oper.wp at h;refine⟨fun _ _=>trivial,?_⟩;rw[show(Fence.wide.inRound l).round=some l from rfl,Oper.semAt_eq _ _ _ hd];generalize (execOp a.eval o).run P w=r at h
 cases r with
 | ok x w'=>
  cases x<;>simp only[Oper.upon,Oper.uponIn]at h⊢<;>
   first
    |exact h
    |exact⟨fun e=> (by cases e),callsIn_wide.2 h⟩
    |exact⟨fun e=> (by cases e),asz h⟩
 |halt x w'=>cases x<;>simp only[Oper.upon,Oper.uponIn]at h⊢<;>exact h
end
def yN (ops:Array Oper):Bool:=ops.toList.all fun o=>match o.op with| .defer _=>false|_=>true
theorem awb {ops} (h:yN ops=true) (j:Nat) (o) (c) (ho:ops[j]? =some o):o.op≠ .defer c:=by
 simp only[yN,bC]at h;have hm:o∈ops.toList:=Array.mem_toList_iff.2 (abF ho);intro he;have:=h o hm;rw[he]at this;cases this
theorem Vo {l n} {X} {Sp} {b} {ops} {Q} (hd:yN ops=true):∀(ls) (k) {E} {st st'} {rs} {ts} {a} {w},
  (∀j,ls[j]? =ops[k+j]?)→Rel X E st a w→(∀j,k≤j→j<ops.size→qm X E st (b+8*j))→jX X.P Sp b ops ls k st=some (rs,ts,st')→oH b k ts=true→
  (∀a' w' E',Rel X E' st' a' w'→Q .normal a' w')→wpOpsIn (Fence.wide.inRound l) n X.P ops Q (List.range' k ls.length) a w
 |[],k,E,st,st',rs,ts,a,w,_,h,_,he,_,hq=>by
  cases he;exact hq a w E h
 | o :: ls,k,E,st,st',rs,ts,a,w,hl,h,hF,he,vP,hq=>by
  have h0:ops[k]? =some o:=by simpa using(hl 0).symm
  have hk:k<ops.size:=(fc.1 h0).1;simp only[jX]at he;split at he
  · rename_i r hr;split at he
    · rename_i rs1 ts1 st1 Cv;cases he;simp only[oH,bt,bC,dj]at vP;simp only[ir,List.range'_succ,wpOpsIn,h0];have:=K9 h (hF k (cn _) hk) (ops:=ops) hr (next:=wpOpsIn (Fence.wide.inRound l) n X.P ops Q (List.range' (k+1) ls.length)) (Q:=Q) (fun v w' E' k1 k2=>by
        refine Vo hd ls (k+1) (fun j=>by have:=hl (j+1);simpa[CQ,Nat.add_comm 1 j]using this) k2 ?_ Cv vP.2 hq;intro j hj Ov n h1 h2;obtain⟨f1,f2,f3,f4⟩:=hF j om Ov n h1 h2;refine⟨k1 n om f1,?_,by rw[FB];exact f3,f4⟩;rw[xe];rintro(h3|h3)
        · have:=vP.1 n (wk _ h3);omega
        · exact f2 h3)
      split
      · rename_i hw;rw[ay hw]at this;exact akg (fun c=>awb hd k o c h0) this
      · rename_i hw;rw[aC hw]at this;exact⟨fun _ _=>trivial,this⟩
    · cases he
  · cases he
def iD (l n:Nat) (X:Fx) (c:Code) (Q:Exit→av→Prop) (st:av):Prop:=
 ∀a w,Told X st a w→c.wpIn (Fence.wide.inRound l) n X.P (fun e a' w'=>∃st',Q e st'∧Told X st' a' w') a w
section
variable {l n:Nat} {X:Fx} {Sp:Spec} {Q:Exit→av→Prop} {st:av}
theorem ajR {id} {ops} {rs} {ts} {st'} (hd:yN ops.toArray=true) (he:jX X.P Sp st.next ops.toArray ops 0 (st.bump ops.length)=some (rs,ts,st')) (hs:oH st.next 0 ts=true) (h:Q .normal st'.settle):
  iD l n X (.region id ops.toArray false) Q st:=fun a w ht=>by
 obtain⟨E,hR,hg⟩:=ht;refine wpIn_region ?_;have:=Vo (l:=l) (n:=n) (X:=X) (ops:=ops.toArray) (Q:=fun e a' w'=>∃st',Q e st'∧Told X st' a' w') hd ops 0 (fun j=>by simp) (hR.bump ops.length) (fun j _ hj=>hR.free hg (by simpa using hj)) he hs (fun a' w' E' k1=>by
  obtain⟨E2,k3,k4⟩:=k1.settle;exact⟨_,h,E2,k3,k4⟩)
 rw[←List.range_eq_range']at this;simpa using this
theorem wR {x y} (h:iD l n X x (AD (iD l n X y Q) Q) st):iD l n X (.seq x y) Q st:=fun a w ht=>by
 refine wpIn_seq (wpIn_mono (h a w ht) ?_);rintro e a' w' ⟨st',h1,h2⟩;cases e<;>first|exact h1 a' w' h2|exact⟨st',h1,h2⟩
theorem YZ {c} {x y} {t} (hc:st.arg c=some (.sc (.bool t))) (h1:t=true→iD l n X x Q st) (h2:t=false→iD l n X y Q st):iD l n X (.cond c x y) Q st:=fun a w ht=>by
 obtain⟨E,hR,hg⟩:=ht;have k1:=RP.dy (hR.bR hc).1;exact wpIn_cond_split k1 (fun h=>h1 h a w ⟨E,hR,hg⟩) (fun h=>h2 h a w ⟨E,hR,hg⟩)
theorem VH {id} {c} (h:iD l n X c (BW id Q) st):iD l n X (.block id c) Q st:=fun a w ht=>by
 refine wpIn_block (wpIn_mono (h a w ht) ?_);rintro e a' w' ⟨st',h1,h2⟩
 cases e with
 |exit vQ=>
  simp only[BW]at h1;simp only[Exit.inBlock];split
  · rename_i he;rw[ay he]at h1;exact⟨st',h1,h2⟩
  · rename_i he;rw[aC he]at h1;exact⟨st',h1,h2⟩
 |_=>exact⟨st',h1,h2⟩
theorem RI (h:Q .normal st):iD l n X .skip Q st:=fun _ _ ht=>wpIn_skip ⟨st,h,ht⟩
end
theorem amr {P} {T} {C} {k0:Nat} (hT:aU.ok P T) (hC:cK.ok P C) {id} {ops} {S} {u} {ρ ρ'} {x} (sX:yN ops=true)
   (h:dH T C ops false S=some u) (hl:ρ.length=S.nv) (hd:u.aa ρ=some (x,ρ')) {l n}:
   ∃S',x= .st .normal S'∧S'.nv=ρ'.length∧(∃ys,ρ'=ρ++ys)∧S'.ar=[]∧∀X:Fx,X.P=P→∀Q:Exit→av→Prop,Q .normal (S'.aa ρ')→iD l n X (.region id ops false) Q (S.aa ρ):=by
 unfold dH at h;split at h
 · rename_i hc;obtain⟨c_,hg,hf⟩:=hc;simp only[iu]at h;obtain⟨t,ht,h⟩:=h;obtain⟨S1,ts,br,v,k1,k2,k3⟩:=AQ h hd;have aO:(if false then oG ops ts&&tL S.next ops ts else oH S.next 0 ts)=true:=by
     apply ow;intro hn;rw[aC hn]at k2;cases k2
   rw[ay aO]at k2
   · cases k2;cases k3;obtain⟨e1,⟨ys,e2⟩,rs,zb,Sp,e3,e4⟩:=uO hT hC ht (by exact hl) k1;subst e4;refine⟨S1.settle,rfl,by rw[Uc];exact e1,⟨ys,e2⟩,Qi S1,fun X vX Q hQ=> ?_⟩;have tc:S.aa ρ'=S.aa ρ:=by rw[e2];exact af.kA c_ om
     have hb:af.aa ρ' {S with next:=S.next+8*ops.size}=(S.aa ρ).bump ops.toList.length:=by
      rw[←tc];simp[af.aa,av.bump]
     rw[hb]at e3;rw[QV]at hQ;have aCx:ops.toList.toArray=ops:=by simp
     subst vX;have:=ajR (l:=l) (n:=n) (X:=X) (Sp:=Sp) (Q:=Q) (id:=id) (ops:=ops.toList) (st:=S.aa ρ) (rs:=rs) (ts:=ts) (by exact sX) (by exact e3) aO hQ;exact this
 · cases h
theorem Rel.other {X} {E} {st} {a} {w w'} (h:Rel X E st a w) (lB:w'.os=w.os) (Oj:w'.tape=w.tape) (hout:w'.output=w.output) (hsz:w.heap.size≤w'.heap.size)
  (hb:∀g o,w.heap[g]? =some o→(g<X.w0.heap.size∨o.isCells=true∨∃en c,o= .map en c)→w'.heap[g]? =w.heap[g]?):Rel X E st a w':=by
 have hcell:∀g o u,w.cell? ⟨g,o,none⟩=some u→w'.cell? ⟨g,o,none⟩=some u:=by
  intro g o u hc;have hlt:=World.block_lt_of_cell? w ⟨g,o,none⟩ hc;have hg:w.heap[g]? =some w.heap[g]:=ry hlt;have hi:(w.heap[g]).isCells=true:=by
   unfold World.cell? at hc;rw[hg]at hc
   cases ho:w.heap[g]with
   |cells=>rfl
   |_=>rw[ho]at hc;simp at hc
  exact(World.cell?_of_block (w:=w) (a:=⟨g,o,none⟩) (hb g _ hg (.inr (.inl hi)))).trans hc
 have hG:gx X.M E E w w':=⟨fun g o u k1 k2=> ⟨hcell g o u k1,k2⟩,fun _ _ h=> .inr h,fun _ h=>h⟩
 have hblk:∀n x g o,E.N n=some x→x.g=some g→w.heap[g]? =some o→(o.isCells=true∨∃en c,o= .map en c)→w'.heap[g]? =some o:=fun n x g o _ _ ho hi=> (hb g o ho (.inr hi)).trans ho
 exact {
  defers:=h.defers
  ar:=h.ar
  frame:=h.frame.trans (K':=fun g=>X.w0.heap.size≤g) ⟨lB,Oj,hout,hsz,fun g hg hn=>by
     have ho:w.heap[g]? =some w.heap[g]:=ry hg;exact hb g _ ho (.inl om)⟩ (fun g hg hK=>by omega)
  eB:=h.eB
  cO:=h.cO
  names:=fun n x g hx hg=>by
   obtain⟨h1,h2,h3⟩:=h.names n x g hx hg;exact⟨om,h2,h3⟩
  inj:=h.inj
  dz:=h.dz
  fq:=h.fq
  fg:=h.fg
  size:=h.size
  tmps:=fun i v hi=>let⟨u,h1,h2⟩:=h.tmps i v hi; ⟨u,h1,h2.goes hG⟩
  heap :=fun m b hm=>by
   rcases h.heap m b hm with h1|h1
   · exact .inl h1
   · by_cases hn:m∈E.ar
     · exact .inl (by rw[←h.ar];exact hn)
     · right
       cases b with
       |box cs=>
        obtain⟨x,g,cur,e,k1,k0,k2,k3,k4⟩:=h1;exact⟨x,g,cur,e,k1,k0,hblk m x g _ k1 k0 k2 (.inl rfl),k3,fun i c hi=>let⟨u,h5,h6,h7⟩:=k4 i c hi; ⟨u,h5,h6.goes hG,h7⟩⟩
       |row e rows=>
        obtain⟨x,cur,fz,k1,bX,k2,k3,k4,k5,k6,ly,k7,k8,i_,k9⟩:=h1;exact⟨x,cur,fz,k1,bX,fun g hg=>hblk m x g _ k1 hg (k2 g hg) (.inl rfl),k3,k4,k5,k6,ly,k7,k8,i_,fun i r j p hi hj=>let⟨u,q1,q2⟩:=k9 i r j p hi hj; ⟨u,q1,q2.goes hG⟩⟩
       |map es=>
        obtain⟨x,g,en,clock,k1,k0,k2,k3⟩:=h1;exact⟨x,g,en,clock,k1,k0,hblk m x g _ k1 k0 k2 (.inr ⟨en,clock,rfl⟩),k3.trans hG.cell⟩}
end
end
end Go.Proofs.YtndegphojkiblaaGreatDoor
