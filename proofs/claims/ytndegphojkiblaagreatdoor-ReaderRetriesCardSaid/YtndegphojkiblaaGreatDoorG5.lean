/- A part of the proof. -/
import Derived.Test.YtndegphojkiblaaGreatDoorG4
set_option linter.all false
set_option maxHeartbeats 4000000
set_option maxRecDepth 100000
namespace Go.Proofs.YtndegphojkiblaaGreatDoor
noncomputable section
section
open Go.RowKit
theorem aqE {P} (w) (t t' ty e) (i) (z) {kk} (ht:P.underlying t=some (.slice e)) (fk:P.underlying t'=some (.int kk)) (hi:P.info? e=some i) (hz:i.zero=some z)
  (g d_ sCap) (cur) {fz} (bX:mI cur.size fz) (hg:w.heap[g]? =some (.cells cur e fz)) (N:Nat) (hN:0<N) (dh:0<i.size) (hNm:(N:Int)≤9223372036854775807) (hNb:N*i.bytes≤281474976710656)
  (h1:∀u∈(Builtin.zeroCells z.cells N).toList,u.oneCell'=true)
  (hroom:d_+N≤sCap) (gS:d_*i.size+(Builtin.zeroCells z.cells N).toList.length≤cur.size):
  (Builtin.append_ #[t,t'] ty #[.slice (some ⟨g,0,none⟩) d_ sCap,.int .i64 N]).run P w=
   .ok (.slice (some ⟨g,0,none⟩) (d_+N) sCap) (w.setRow g (cur.toList.take (d_*i.size)++(Builtin.zeroCells z.cells N).toList++cur.toList.drop (d_*i.size+(Builtin.zeroCells z.cells N).toList.length)).toArray):=by
 have hst:=B2 P g (d_*i.size) e fz (Builtin.zeroCells z.cells N).toList 0 cur w bX hg (by simpa using gS) h1;have hw:IntKind.i64.wrap (N:Int)=(N:Int):=by rw[IntKind.wrap_i64];omega
 have e1:¬((N:Int)<0):=om;have e2:¬(281474976710656< (N:Int)*(i.bytes:Int)):=om;have e5:N*i.size≠0:=Pt (Pu hN dh);simp[Builtin.append_,run_underlying ht,run_underlying fk,sizeOf,typeInfo,zeroValue,hi,hz,asInt,asIntOf,hw,e1,e2,e5,hroom,Addr.add_lit,hst]
theorem alg {P} {w} (t t' ty e) (i) (z) {kk} (ht:P.underlying t=some (.slice e)) (fk:P.underlying t'=some (.int kk)) (hi:P.info? e=some i) (hz:i.zero=some z)
  (b) (d_ sCap) (olds:List bh) (cg:olds.length=d_*i.size) (holds:∀j v,olds[j]? =some v→w.cell? (b.add j)=some v)
  (N) (hN:0<N) (dh:0<i.size) (hNb:N*i.bytes≤281474976710656)
  (hg:sCap<d_+N) (h63:((d_+N:Nat):Int)≤9223372036854775807) (gS:Builtin.nextslicecap (d_+N) sCap*i.bytes≤281474976710656):
  (Builtin.append_ #[t,t'] ty #[.slice (some b) d_ sCap,.int .i64 N]).run P w=
   .ok (.slice (some ⟨w.heap.size,0,none⟩) (d_+N) (grownCap w (d_+N) sCap e))
    (w.drew.alloc (.cells (olds.toArray++(Builtin.zeroCells z.cells N).toList.toArray++Builtin.zeroCells z.cells (grownCap w (d_+N) sCap e- (d_+N))) e)):=by
 have hn:¬(d_+N≤sCap):=om;have aBL:¬(9223372036854775807< ((d_:Int)+(N:Int))):=om;have aBM:¬(281474976710656<Builtin.nextslicecap (d_+N) sCap*i.bytes):=om;have y6:=run_firstCells_some (P:=P) w.drew i.size d_ b d_ sCap olds cg (by simpa using holds);have hw:IntKind.i64.wrap (N:Int)=(N:Int):=by rw[IntKind.wrap_i64];omega
 have e1:¬((N:Int)<0):=om;have e2:¬(281474976710656< (N:Int)*(i.bytes:Int)):=om;have e5:N*i.size≠0:=Pt (Pu hN dh);have e9:max (N:Int) 0=N:=om;simp[Builtin.append_,run_underlying ht,run_underlying fk,sizeOf,typeInfo,zeroValue,hi,hz,asInt,asIntOf,hw,e1,e2,e5,e9,hn,aBL,aBM,Question.forced,y6,newRow,grownCap]
noncomputable def vq (P:bB) (st:av) (d:Nat) (t t':a6) (s x:bD):Option (V×g_):=
 match eO P t,st.arg s,st.arg x,P.underlying t' with
 | some e,some (.v (.c cs)),some (.v (.c (.p (.sc (.int .i64 n))))),some (.int _)=>match jP P e,pz P e,st.gw e cs with
  |some (n0,b),some zs,some (rows,ms)=>match lK zs with
   |some z=>if 0<n∧rows.length+n.toNat≤9223372036854775807∧(rows.length+n.toNat)*b≤140737488355328∧bu n0 rows=true then some (.c (.own d),⟨[(d,.row e (rows++List.replicate n.toNat z))],ms⟩)else none
   |none=>none
  |_,_,_=>none
 |_,_,_,_=>none
section
variable {X:Fx} {E:Env} {st:av} {a:Act} {w:a7}
set_option maxHeartbeats 2000000 in
theorem ars (h:Rel X E st a w) {d} (hd:E.N d=none) (fv:X.k0≤d) (ec:d<st.next) (vJ:d∉st.ar) {t t' ty} {s x} {v} {ef}
   (he:vq X.P st d t t' s x=some (v,ef)):
   ∃u w' E',(Builtin.append_ #[t,t'] ty #[a.eval s,a.eval x]).run X.P w= .ok u w'∧(∀n,n≠d→E.N n=none→E'.N n=none)∧Rel X E' (st.df ef) a w'∧RV X.M E' w' v u:=by
 unfold vq at he;split at he
 · rename_i e cs nn kk ht hs hx hk;obtain⟨hu,kP⟩:=pq ht;have gb:a.eval x= .int .i64 nn:=RP.dy (h.bR hx).1;split at he
   · rename_i n b zs rows ms fw hzz dY;obtain⟨i,z,hi,hz,hzs,dh,c_,hib,f_⟩:=wQ fw;obtain⟨i',z',hi',sW,jm⟩:=xu (M:=X.M) (E:=E) (w:=w) hzz;rw[hi]at hi';cases hi';rw[hz]at sW;cases sW;split at he
     · rename_i zp Co;split at he
       · rename_i hb;obtain⟨h0n,Hg,hby,iJ⟩:=hb;rw[pa]at iJ;cases he;obtain⟨dQ,hl2⟩:=nX Co;have hzl:zp.length=n:=by rw[dQ,←jm.1,hzs]
         obtain⟨N,rfl⟩:∃N:Nat,nn=(N:Int):=⟨nn.toNat,om⟩
         simp only[fA]at Hg hby⊢;have hN:0<N:=om;have hNp:=hN;generalize Om:List.replicate N zp=bF;have gP:bF.length=N:=by rw[←Om];simp
         rw[←gP]at Hg hby;have ke:eI n bF:=fun r hr=>by rw[←Om]at hr;rw[(Pp.1 hr).2];exact hzl
         have hlen:rows.length+bF.length≤maxLen:=by simp only[maxLen];omega
         obtain⟨hsc,_,ma⟩:=h.bR hs;have hst:∀ns,h_ (bad X.M E) (bad X.M (E.drop ns)) w w:=fun ns k o u h1 h2=> ⟨h1,fun h=>h2 (sH h)⟩
         generalize hnews:(Builtin.zeroCells z.cells N).toList=news;have gC:news.length=bF.length*n:=by rw[←hnews,gP];simp[Builtin.zeroCells,hzs]
         have aal:∀q,q<N*n→news[q]? =some (z.cells[q%n]!):=fun q hq=>by
          rw[←hnews];simp only[Builtin.zeroCells,abE,bV,hzs,Array.toList_range,wq hq,aV]
         have hval:∀(i':Nat) (r:List PV) (j':Nat) (p:PV),bF[i']? =some r→r[j']? =some p→∃u,news[i'*n+j']? =some u∧RP (bad X.M E) w p u:=fun i' r j' p h5 h6=>by
          rw[←Om]at h5;have kg:r=zp:=(Pp.1 (dn h5)).2;subst kg;have ik:i'<N:=by have:=(dr.1 h5).1;simpa using this
          have hj':j'<n:=by rw[←hzl];exact(dr.1 h6).1
          obtain⟨cc,h7,h8⟩:=hl2 j' p h6;obtain⟨u',h9,h10,_⟩:=jm.2 j' cc h7;have hlt:i'*n+j'<N*n:=by
            have:(i'+1)*n≤N*n:=fy _ ik;rw[ot]at this;omega
          refine⟨u',?_,RC.pv h10 h8⟩;rw[aal _ hlt,show(i'*n+j')%n=j' by rw[Pn,abH,zi hj']];obtain⟨q,hq⟩:=fc.1 h9;rw[getElem!_pos z.cells j' q,hq]
         have lz:∀u∈news,u.oneCell'=true:=fun u hu'=>by
          obtain⟨q,hq⟩:=List.getElem?_of_mem hu';have Ht:=(dr.1 hq).1;rw[gC,gP]at Ht;rw[aal q Ht]at hq;have hqm:q%n<n:=Nat.mod_lt _ dh;have aBP:q%n<z.cells.size:=by rw[hzs];exact hqm
          have aBQ:q%n<zs.length:=by rw[←jm.1];exact aBP
          obtain⟨u',h9,_,h10⟩:=jm.2 (q%n) _ (bW aBQ);obtain⟨q',hq'⟩:=fc.1 h9;rw[getElem!_pos z.cells _ q',hq']at hq;cases hq;exact h10
         rw[gb];have hnil:a.eval s= .slice none 0 0→rows=[]→(∀m∈ms,m<st.next)→
            ∃u w' E',(Builtin.append_ #[t,t'] ty #[a.eval s,.int .i64 N]).run X.P w= .ok u w'∧(∀n,n≠d→E.N n=none→E'.N n=none)∧Rel X E' (st.df ⟨[(d,.row e (rows++bF))],ms⟩) a w'∧RV X.M E' w' (.c (.own d)) u:=by
          intro hA h0 qN;subst h0;rw[hA];have hD:=h.drop ms qN;have pC:(E.drop ms).N d=none:=Env.kB hd;have qO:=grownCap_ge w bF.length 0 e;have qP:=grownCap_le_maxLen w bF.length 0 e (by simpa using hlen);have hf:=hD.uY pC fv ec (e:=e) dh f_.symm ke qO qP (us:=news.toArray++Builtin.zeroCells z.cells (grownCap w bF.length 0 e-bF.length))
            (by simp only[CS,rC,size_zeroCells,hzs,gC,←kl];congr 1;omega)
            (fun i r j p k1 k2=>by
              obtain⟨u,k3,k4⟩:=hval i r j p k1 k2;have hk:=(dr.1 k3).1;exact⟨u,by rw[CU,ay (by simpa using hk)];simpa using k3,k4.trans (hst ms)⟩) (wd:=w.drew) (.inr rfl)
          refine⟨_,_,_,?_,fun k hk jC=>by rw[Env.kX hk];exact Env.kB jC,hf.1,hf.2⟩;have hw:IntKind.i64.wrap (N:Int)=(N:Int):=by rw[IntKind.wrap_i64];omega
          have e1:¬((N:Int)<0):=om;have aEJ:N*b≤140737488355328:=by simpa[gP]using hby
          have e2:¬(281474976710656< (N:Int)*(i.bytes:Int)):=by rw[hib,←Int.natCast_mul];omega
          have e3:¬(9223372036854775807< (N:Int)):=om;have e4:¬(281474976710656<Builtin.nextslicecap N 0*i.bytes):=by rw[nextslicecap_zero hN,hib];omega
          have e6:¬N=0:=om;have e5:N*n≠0:=Pt (Pu hN dh);have e9:max (N:Int) 0=N:=om;rw[gP,←hnews];simp[Builtin.append_,run_underlying hu,run_underlying hk,sizeOf,typeInfo,zeroValue,hi,hz,c_,asInt,asIntOf,hw,e1,e2,e3,e4,e5,e6,e9,Question.forced,Builtin.firstCells,newRow,grownCap]
         have hrow:∀(m:Nat) (y:Nm) (g:Nat) (cur:Array bh) (fz:Nat×Nat),mI cur.size fz→m∉st.ar→E.N m=some y→y.g=some g→w.heap[g]? =some (.cells cur e fz)→y.sz=n→y.cap≤maxLen→cur.size=y.cap*n→rows.length≤y.cap→
            (∀(i:Nat) (r:List PV) (j:Nat) (p:PV),rows[i]? =some r→r[j]? =some p→∃u,cur[i*n+j]? =some u∧RP (bad X.M E) w p u)→a.eval s= .slice (some ⟨g,0,none⟩) rows.length y.cap→ms=[m]→
            ∃u w' E',(Builtin.append_ #[t,t'] ty #[a.eval s,.int .i64 N]).run X.P w= .ok u w'∧(∀n,n≠d→E.N n=none→E'.N n=none)∧Rel X E' (st.df ⟨[(d,.row e (rows++bF))],ms⟩) a w'∧RV X.M E' w' (.c (.own d)) u:=by
          intro m y g0 cur fz bX jD hN yS hg0 qQ Hh yU jE vK eM qN;subst qN;have yV:=h.cO m y hN;rw[eM];have hmul:rows.length*n≤cur.size:=by rw[yU];exact fy _ jE
          have kf:(cur.toList.take (rows.length*n)).length=rows.length*n:=by simp;omega
          have qR:∀(us:Array bh),(∀k,k<rows.length*n+news.length→us[k]? =(cur.toList.take (rows.length*n)++news)[k]?)→∀(i:Nat) (r:List PV) (j:Nat) (p:PV),(rows++bF)[i]? =some r→r[j]? =some p→∃u,us[i*n+j]? =some u∧RP (bad X.M E) w p u:=by
            intro us fi i r j p k1 k2;have hrn:r.length=n:=(iJ.app ke) r (dn k1);have hj:=(dr.1 k2).1;rw[mg]at k1;split at k1
            · rename_i hlt;obtain⟨u,k3,k4⟩:=vK i r j p k1 k2;have:(i+1)*n≤rows.length*n:=fy _ hlt;rw[ot]at this;refine⟨u,?_,k4⟩;rw[fi _ om,mg,ay om,ti,ay om];simpa using k3
            · obtain⟨u,k3,k4⟩:=hval _ r j p k1 k2;have hk:=(dr.1 k3).1;have e1:i*n=rows.length*n+(i-rows.length)*n:=by rw[←kl];congr 1;omega
              refine⟨u,?_,k4⟩;rw[fi _ om,mg,aC om,kf,←k3];congr 1;omega
          by_cases hroom:rows.length+bF.length≤y.cap
          · have gS:rows.length*n+news.length≤cur.size:=by rw[gC,yU,←kl];exact fy _ hroom
            have hr:=aqE (P:=X.P) w t t' ty e i z hu hk hi hz g0 rows.length y.cap cur bX hg0 N hNp om om (by rw[hib];have:N*b≤(rows.length+bF.length)*b:=fy _ om;omega) (by rw[hnews];exact lz) om (by rw[c_,hnews];exact gS)
            conv at hr=>rhs;rw[hnews,←gP]
            rw[c_]at hr;have hk:=h.take (d:=d) yV hN yS hg0 (us:=(cur.toList.take (rows.length*n)++news++cur.toList.drop (rows.length*n+news.length)).toArray) (by rw[show(cur.toList.take (rows.length*n)++news++cur.toList.drop (rows.length*n+news.length)).toArray.size=cur.size by simp;omega];exact bX) hd fv ec vJ (rows:=rows++bF) (by rw[qQ];exact iJ.app ke) om (by rw[qQ,f_]) (by simpa using hroom) Hh
              (by rw[qQ,←yU];simp;omega) (by
               rw[qQ];refine qR _ fun k hk=> ?_
               rw[CR,mg,ay (by simp only[bE,kf];exact hk)])
            simp only[bE]at hk;exact⟨_,_,_,hr,fun k hk jC=>by rw[Env.kX hk];exact Env.kB jC,hk.1,hk.2⟩
          · have holds:∀j v,(cur.toList.take (rows.length*n))[j]? =some v→w.cell? ((⟨g0,0,none⟩:Addr).add j)=some v:=fun j u hj=>by
              rw[nV,cell_of_row w g0 _ cur e fz hg0];simpa using(DC hj).1
            have hr:=alg (P:=X.P) (w:=w) t t' ty e i z hu hk hi hz ⟨g0,0,none⟩ rows.length y.cap (cur.toList.take (rows.length*n)) (by rw[c_];exact kf) holds N hNp om (by rw[hib];have:N*b≤(rows.length+bF.length)*b:=fy _ om;omega) om om
              (by rw[hib,←gP];exact growslice_fits om hby)
            conv at hr=>rhs;rw[hnews,←gP]
            have qO:=grownCap_ge w (rows.length+bF.length) y.cap e;have qP:=grownCap_le_maxLen w (rows.length+bF.length) y.cap e hlen;have jF:∀k,k<rows.length*n+news.length→((cur.toList.take (rows.length*n)).toArray++news.toArray++Builtin.zeroCells z.cells (grownCap w (rows.length+bF.length) y.cap e- (rows.length+bF.length)))[k]? =(cur.toList.take (rows.length*n)++news)[k]?:=by
              intro k hk;rw[CU,ay (by simp only[CS,rC,kf];exact hk)];simp[mg]
            have hD:=h.drop [m] (by simpa using yV);have pC:(E.drop [m]).N d=none:=Env.kB hd;have hf:=hD.uY pC fv ec (e:=e) dh f_.symm (rows:=rows++bF) (iJ.app ke) (cap:=grownCap w (rows.length+bF.length) y.cap e) (by simpa using qO) qP
              (us:=(cur.toList.take (rows.length*n)).toArray++news.toArray++Builtin.zeroCells z.cells (grownCap w (rows.length+bF.length) y.cap e- (rows.length+bF.length)))
              (by simp only[CS,rC,size_zeroCells,hzs,gC,kf,←kl];congr 1;omega)
              (fun i r j p k1 k2=>by
               obtain⟨u,k3,k4⟩:=qR _ jF i r j p k1 k2;exact⟨u,k3,k4.trans (hst [m])⟩) (wd:=w.drew) (.inr rfl)
            simp only[bE]at hf;exact⟨_,_,_,hr,fun k hk jC=>by rw[Env.kX hk];exact Env.kB jC,hf.1,hf.2⟩
         cases cs with
         |nil=>
          obtain⟨rfl,rfl⟩:=dY;exact hnil hsc rfl (by simp)
         | own m=>
          simp only[av.gw]at dY;have jD:=ma m (by simp[C.names]);split at dY
          · rename_i e' yW hl;split at dY
            · rename_i gE;subst gE;cases dY;obtain⟨y,cur,fz,h1,bX,h2,h3,h4,h5,h6,h11,h7,h8,h10,h9⟩:=h.row jD hl;obtain⟨y',k1,k2⟩:=bO.get hsc (by rw[h.ar];exact jD);rw[h1]at k1;cases k1;have qS:y.sz=n:=by rw[h11,f_]
              cases hg:y.g with
              |none=>
               have hc0:=h10 hg;have hl0:y.len=0:=om;rw[hg,hl0,hc0]at k2;exact hnil (by simpa using k2) (ni om) (by simpa using h.cO m y h1)
              |some g=>
               rw[hg,h3]at k2;exact hrow m y g cur fz bX jD h1 hg (h2 g hg) qS h5 (by rw[←qS];exact h7) om (by rw[←qS];exact h9) (by simpa using k2) rfl
            · cases dY
          · cases dY
         | sub m lo len=>
          cases lo with
          |succ lo=>simp[av.gw]at dY
          |zero=>
          simp only[av.gw]at dY;have jD:=ma m (by simp[C.names]);split at dY
          · rename_i e' yW hl;split at dY
            · rename_i gE;subst gE;cases dY;obtain⟨y,cur,fz,h1,bX,h2,h3,h4,h5,h6,h11,h7,h8,h10,h9⟩:=h.row jD hl;obtain⟨y',k1,k2,A,k3,k4⟩:=bO.get hsc (by rw[h.ar];exact jD);rw[h1]at k1;cases k1;have qS:y.sz=n:=by rw[h11,f_]
              have hA:=k4 (.inr rfl);have yX:(yW.take len).length=len:=by simp;omega
              cases hg:y.g with
              |none=>
               have hc0:=h10 hg;have hl0:len=0:=om;rw[hA,hg,hl0,hc0]at k3;exact hnil (by simpa using k3) (by rw[hl0];simp) (by simpa using h.cO m y h1)
              |some g=>
               rw[hA,hg]at k3;refine hrow m y g cur fz bX jD h1 hg (h2 g hg) qS h5 (by rw[←qS];exact h7) om (fun i r j p hi hj=> ?_) (by rw[yX];simpa using k3) rfl;rw[←qS];exact h9 i r j p (DC hi).1 hj
            · cases dY
          · cases dY
         |_=>simp[av.gw]at dY
       · cases he
     · cases he
   · cases he
 · cases he
end
noncomputable def p7 (P:bB) (st:av) (d:Nat) (t t':a6) (s x:bD):Option (V×g_):=match oB P st d t t' s x with
 |some r=>some r
 |none=>vq P st d t t' s x
section
variable {X:Fx} {E:Env} {st:av} {a:Act} {w:a7}
theorem ahI (h:Rel X E st a w) {d} (hd:E.N d=none) (fv:X.k0≤d) (ec:d<st.next) (vJ:d∉st.ar) {t t' ty} {s x} {v} {ef}
   (he:p7 X.P st d t t' s x=some (v,ef)):
   ∃u w' E',(Builtin.append_ #[t,t'] ty #[a.eval s,a.eval x]).run X.P w= .ok u w'∧(∀n,n≠d→E.N n=none→E'.N n=none)∧Rel X E' (st.df ef) a w'∧RV X.M E' w' v u:=by
 unfold p7 at he;split at he
 · rename_i r hr;cases he;exact awU h hd fv ec hr
 · exact ars h hd fv ec vJ he
end
theorem Y4:∀{rows},eI 1 rows→∀j:Nat,rows.flatten[j]? =(rows[j]?).bind (·[0]?)
 |[],_,j=>by simp
 | r::rows,h,j=>by
  have h1:r.length=1:=h r (by simp)
  match r,h1 with
  | [p],_=>
   cases j with
   |zero=>rfl
   |succ j=>
    exact Y4 (fun r hr=>h r (by simp[hr])) j
noncomputable def yI (P:bB) (st:av) (t:a6) (x:bD):Option V:=
 match st.arg x,kT P t with
 |some (.v (.c (.p (.sl rows)))),some (n,_)=>if 0<n∧n≤rows.length∧bu 1 rows=true then some (.v (.c (.ref (rows.take n).flatten)))else none
 |_,_=>none
section
variable {X:Fx} {E:Env} {st:av} {a:Act} {w:a7}
theorem aeo (h:Rel X E st a w) {t} {x} {v}
   (he:yI X.P st t x=some v):∃u,(Instr.arrayAt t (a.eval x)).run X.P w= .ok u w∧RV X.M E w v u:=by
 unfold yI at he;split at he
 · rename_i rows n e hx ht;obtain⟨hu,_⟩:=Gq ht;split at he
   · rename_i hb;obtain⟨b0,b1,b2⟩:=hb;cases he;have hr:RP (bad X.M E) w (.sl rows) (a.eval x):=(h.bR hx).1;have hR:=pa.1 b2;generalize a.eval x=y at hr
     cases hr with
     |nil=>simp at b1;omega
     | @row _ g o cap sz f h0 hl hm hs hcc vH=>
      have hsz:sz=1:=by
        cases rows with
        |nil=>exact absurd rfl h0
        |cons r rows=>rw[←hs r (by simp),hR r (by simp)]
      subst hsz;refine⟨.pointer (some ⟨g,o,none⟩),?_,g,o,rfl,fun j p hj=> ?_⟩
      · simp[Instr.arrayAt,run_underlying hu,Nat.not_lt.2 b1]
      · rw[Y4 (fun r hr=>hR r (mf hr))]at hj;simp only[iu]at hj;obtain⟨r,h1,h2⟩:=hj;rw[ti]at h1;split at h1
        · have k1:=hcc j r 0 p h1 h2;have k2:=vH j r 0 p h1 h2;rw[Po,kS]at k1;exact⟨_,k1.1,k1.2,k2⟩
        · cases h1
   · cases he
 · cases he
end
def qh (g:a6→Option Nat):List Field→Nat→Option Nat
 |[],o=>some o
 |f::l,o=>match g f.type with
  |some n=>if f.offset=o∧f.name≠ "_" then qh g l (o+n)else none
  |none=>none
def oT (P:bB):Nat→a6→Option Nat
 |0,_=>none
 | d+1,t=>match P.underlying t with
  |some (.int _)=>some 1
  |some (.struct fs)=>match qh (oT P d) fs.toList 0 with
   |some n=>if P.stoodInHeld t=false∧(P.info? t).isSome=true∧da P t=n then some n else none
   |none=>none
  |_=>none
def Ec (P:bB) (t:a6):Nat:=match P.underlying t with
 |some (.struct _)=>if P.eqGuardType P.depth t then 0 else(oT P 4 t).getD 0
 |_=>0
theorem Rl {g:a6→Option Nat}:∀{l:List Field} {o n:Nat},qh g l o=some n→o≤n
 |[],o,n,h=>by simp[qh]at h;omega
 |f::l,o,n,h=>by
  simp only[qh]at h;split at h
  · split at h
    · have:=Rl h;omega
    · cases h
  · cases h
theorem eq_int {P} {w} {t} {k k'} {a b} (ht:P.underlying t=some (.int k')) (d):
  (Op.equalIn (d+1) t (.int k a) (.int k b)).run P w= .ok (a==b) w:=by
 simp[Op.equalIn,run_underlying ht]
theorem UP {P} {w} {t} {k} (ht:P.underlying t=some (.int k)) {cs} {i} {v} (hv:cs[i]? =some v):
  (part t cs i).run P w= .ok v w:=by
 simp[part,isAgg,run_underlying ht,hv]
def pt (us:Array bh) (o n:Nat) (k:Nat→dZ) (a:Nat→Int):Prop:=∀i,i<n→us[o+i]? =some (.int (k i) (a i))
def EqAt (P:bB) (w:a7) (d:Nat) (t:a6) (n:Nat):Prop:=∀(us vs:Array bh) (o:Nat) (k:Nat→dZ) (a b:Nat→Int),pt us o n k a→pt vs o n k b→
 ∃u v r,(part t us o).run P w= .ok u w∧(part t vs o).run P w= .ok v w∧(∀e,(Op.equalIn (e+d) t u v).run P w= .ok r w)∧(r=true ↔∀i,i<n→a i=b i)
theorem Ku {P} {w} {d} (ih:∀t n,oT P d t=some n→EqAt P w d t n) {us vs} {N} {k} {a b} (hu:pt us 0 N k a) (hv:pt vs 0 N k b) (e):
  ∀ (l ) (o ),qh (oT P d) l o=some N→∃r,(∀K:Option Bool×Unit→a7→Result Bool,K (none,()) w= .ok true w→(∀r,K (some r,()) w= .ok r w)→(Sem.run P
        (forIn l ((none:Option Bool),()) fun f __s=>
          if f.name= "_" then pure (ForInStep.yield (none,()))
          else do
            let __do_lift←part f.type us f.offset
            let aBR←part f.type vs f.offset
            let __do_lift←Op.equalIn (e+d) f.type __do_lift aBR
            if __do_lift=false then pure (ForInStep.done (some false,()))else pure (ForInStep.yield (none,())))
        w).andThen K=Result.ok r w)∧(r=true ↔∀i,o≤i→i<N→a i=b i)
 |[],o,h=>by
  simp only[qh,jd]at h;exact⟨true,fun K h1 h2=>by simpa using h1,by simp;omega⟩
 | f :: l,o,h=>by
  simp only[qh]at h;split at h
  · rename_i n hn;split at h
    · rename_i hf;obtain⟨rfl,hf2⟩:=hf;have hle:=Rl h;obtain⟨u,v,r,h1,h2,h3,h4⟩:=ih _ _ hn us vs f.offset (fun i=>k (f.offset+i)) (fun i=>a (f.offset+i)) (fun i=>b (f.offset+i)) (fun i hi=>by have:=hu (f.offset+i) om;simpa using this) (fun i hi=>by have:=hv (f.offset+i) om;simpa using this);obtain⟨r',h5,h6⟩:=Ku ih hu hv e l _ h;refine⟨r&&r',?_,?_⟩
      · intro K k1 k2;simp[hf2,h1,h2,h3 e];cases r
        · simpa using k2 false
        · simpa using h5 K k1 k2
      · rw [bt,h4,h6];constructor
        · intro⟨g1,g2⟩ i hi ik;by_cases hc:f.offset+n≤i
          · exact g2 i hc ik
          · have:=g1 (i-f.offset) om
            rwa [Nat.add_sub_cancel' hi]at this
        · intro g;exact⟨fun i hi=>g _ om om,fun i hi ik=>g i om ik⟩
    · cases h
  · cases h
theorem Zf {P} {w} {d} (ih:∀t n,oT P d t=some n→EqAt P w d t n) {t} {fs} (ht:P.underlying t=some (.struct fs)) (hs:P.stoodInHeld t=false) {n} (hn:qh (oT P d) fs.toList 0=some n)
  {us vs} {k} {a b} (hu:pt us 0 n k a) (hv:pt vs 0 n k b):∃r,(∀e,(Op.equalIn (e+(d+1)) t (.agg us) (.agg vs)).run P w= .ok r w)∧(r=true ↔∀i,i<n→a i=b i):=by
 obtain⟨l⟩:=fs;obtain⟨r,_,h2⟩:=Ku ih hu hv 0 l 0 hn;refine⟨r,fun e=> ?_,h2.trans ⟨fun h i hi=>h i (fm _) hi,fun h i _ hi=>h i hi⟩⟩;obtain⟨r',h3,h4⟩:=Ku ih hu hv e l 0 hn;have:r'=r:=by rw[iK,h2,h4]
 subst this;show(Op.equalIn ((e+d)+1) t _ _).run P w=_;rw[Op.equalIn];simp[run_underlying ht,hs];exact h3 _ (by simp) (fun r=>by simp)
theorem UT {P:bB} {w:a7}:∀(d:Nat) (t:a6) (n:Nat),oT P d t=some n→EqAt P w d t n
  |0,t,n,h=>by cases h
  | d + 1,t,n,h=>by
    intro us vs o k a b hu hv;rw[oT]at h;split at h
    · rename_i k' ht;cases h;have e1:=hu 0 om;have e2:=hv 0 om;refine⟨_,_,_,UP ht e1,UP ht e2,fun e=>eq_int ht (e+d),?_⟩;simp only[beq_iff_eq];exact ⟨fun g i hi => by
                              obtain rfl:i=0:=om;exact g,fun g=>g 0 om⟩
    · rename_i fs ht;split at h
      · rename_i m hm;split at h
        · rename_i hc;cases h;obtain⟨r,h1,h2⟩:=Zf (w:=w) (fun t n=>UT d t n) ht hc.1 hm (us:=us.extract o (o+n)) (vs:=vs.extract o (o+n)) (k:=k) (a:=a) (b:=b)
            (fun i hi=>by rw[Array.getElem?_extract,pP,ay (by have:=(fc.1 (hu i hi)).1;omega)];exact hu i hi)
            (fun i hi=>by rw[Array.getElem?_extract,pP,ay (by have:=(fc.1 (hv i hi)).1;omega)];exact hv i hi)
          refine⟨_,_,r,?_,?_,h1,h2⟩
          · simp[part,isAgg,run_underlying ht,run_sizeOf w hc.2.1,hc.2.2]
          · simp[part,isAgg,run_underlying ht,run_sizeOf w hc.2.1,hc.2.2]
        · cases h
      · cases h
    · cases h
theorem akD {P} {t} {n} (h:Ec P t=n) (hn:n≠0) (w) (x y) {us vs} {k} {a b} (hu:pt us 0 n k a) (hv:pt vs 0 n k b) {r} (hr:r=true ↔∀i,i<n→a i=b i):
   (do eqGuard .eql t x y (.agg us) (.agg vs);binOp .eql t (.agg us) (.agg vs)).run P w= .ok (.bool r) w∧
   (do eqGuard .neq t x y (.agg us) (.agg vs);binOp .neq t (.agg us) (.agg vs)).run P w= .ok (.bool (!r)) w:=by
 unfold Ec at h;split at h
 · rename_i fs ht;split at h
   · exact absurd h.symm hn
   · rename_i hg;have he:(Op.equal t (.agg us) (.agg vs)).run P w= .ok r w:=by
       cases hc:oT P 4 t with
       |none=>rw[hc]at h;exact absurd h.symm hn
       | some m=>
        rw[hc]at h;obtain rfl:m=n:=h;rw[oT]at hc;split at hc
        · rename_i k' hk;rw[ht]at hk;cases hk
        · rename_i fs' fk;rw[ht]at fk;cases fk;split at hc
          · rename_i m' hm;split at hc
            · rename_i hq;cases hc;obtain⟨r',h1,h2⟩:=Zf (w:=w) (fun t n=>UT 3 t n) ht hq.1 hm hu hv;obtain rfl:r'=r:=by rw[iK,h2,hr]
              exact h1 9996
            · cases hc
          · cases hc
        · cases hc
     constructor
     · simp[eqGuard,binOp,run_program,he,hg]
     · simp[eqGuard,binOp,run_program,he,hg]
 · exact absurd h.symm hn
def uc:List C→Option (List (dZ×Int))
 |[]=>some []
 | .p (.sc (.int k a))::cs=> (uc cs).map ((k,a):: ·)
 |_=>none
def oD (t:Bool):List (dZ×Int)→List (dZ×Int)→Bool
 | (_,a)::xs,(_,b)::ys=>oD (t&&a==b) xs ys
 |_,_=>t
def DW (P:bB) (op:BinOp) (t:a6) (cs ds:List C):Option Bool:=match uc cs,uc ds with
 | some ((i,a)::xs),some ((j,b)::ys)=>if Ec P t=xs.length+1∧i::xs.map (·.1)=j::ys.map (·.1)then match op with
   | .eql=>some (oD (a==b) xs ys)
   | .neq=>some (!oD (a==b) xs ys)
   |_=>none
  else none
 |_,_=>none
def nI (xs:List (dZ×Int)) (i:Nat):dZ×Int:=xs[i]?.getD (.i64,0)
theorem Nt:∀{cs:List C} {xs:List (dZ×Int)},uc cs=some xs→∀i,i<xs.length→cs[i]? =some (.p (.sc (.int (nI xs i).1 (nI xs i).2)))
 |[],xs,h,i,hi=>by cases h;cases hi
 |c::cs,xs,h,i,hi=>by
  unfold uc at h;split at h
  · cases ‹_::_=[]›
  · rename_i k a cs' hc;cases hc;simp only[aT]at h;obtain⟨ys,h1,rfl⟩:=h
    cases i with
    |zero=>rfl
    |succ i=>simpa[nI]using Nt h1 i (by simpa using hi)
  · cases h
theorem VP:∀{xs ys:List (dZ×Int)} {t:Bool},xs.length=ys.length→(oD t xs ys=true ↔ t=true∧∀i,i<xs.length→(nI xs i).2=(nI ys i).2)
 |[],[],t,_=>by simp[oD]
 | (k,a)::xs,(j,b)::ys,t,h=>by
  rw[oD,VP (by simpa using h),bt,beq_iff_eq,and_assoc];refine and_congr_right fun _=> ⟨fun ⟨g1,g2⟩ i hi=> ?_,fun g=> ⟨by simpa[nI]using g 0 (by simp),fun i hi=>by simpa[nI]using g (i+1) (by simpa using hi)⟩⟩
  cases i with
  |zero=>simpa[nI]using g1
  |succ i=>simpa[nI]using g2 i (by simpa using hi)
theorem RP.slice3 {M} {w} {rows} {A} {n cap size} (hr:RP M w (.sl rows) (.slice A n cap)) (hR:eI size rows) {l h} (h1:l≤h) {m} (hm1:h≤m) (On:m≤rows.length):
   RP M w (.sl ((rows.take h).drop l)) (.slice (if m=l then A else A.map (·.add (l*size))) (h-l) (m-l)):=by
 by_cases N5:l=h
 · subst N5;have:(rows.take l).drop l=[]:=by simp
   rw[this,wj];exact .nil
 · cases hr with
   |nil=>simp at On;omega
   | @row _ g o cap sz f h0 hl hm hs hcc vH=>
    have hlen:((rows.take h).drop l).length=h-l:=by simp;omega
    have hsz:∀r∈rows,sz=size:=fun r hr=>by rw[←hs r hr];exact hR r hr
    have hne:m≠l:=om;rw[aC hne,←hlen];simp only[aV,nV];have hg:∀(i:Nat) (r:List PV),((rows.take h).drop l)[i]? =some r→rows[l+i]? =some r:=by
      intro i r hi;rw[wi,ti]at hi;split at hi
      · exact hi
      · cases hi
    have dh:∀(i:Nat) (r:List PV) (j:Nat),((rows.take h).drop l)[i]? =some r→o+l*size+i*sz+j=o+(l+i)*sz+j:=by
      intro i r j hi;have:=hsz r (dn (hg i r hi));subst this;rw[kl];omega
    refine RP.row (sz:=sz) (f:=fun i j=>f (l+i) j) (by intro h3;rw[h3]at hlen;simp at hlen;omega) om om (fun r hr=>hs r (mf (wh hr))) ?_ ?_
    · intro i r j p hi hj;rw[dh i r j hi];exact hcc (l+i) r j p (hg i r hi) hj
    · intro i r j p hi hj;exact vH (l+i) r j p (hg i r hi) hj
theorem RP.azi {M} {w} {rows} {v} (h:RP M w (.sl rows) v):∃A n cap,v= .slice A n cap∧rows.length≤cap:=by
 cases h with
 |nil=>exact⟨_,_,_,rfl,fm _⟩
 |row h0 hl=>exact⟨_,_,_,rfl,hl⟩
theorem aiV {P} (isSlice) (len cap:Nat) (lo) {l h m:Int} {k1 k2} (cg:lo=none∧l=0∨∃k,lo=some (.int k l))
   (h0:0≤l) (h1:l≤h) (h2:h≤m) (h3:m≤cap) (w):(Instr.sliceBounds isSlice len cap lo (some (.int k1 h)) (some (.int k2 m))).run P w= .ok (l.toNat,h.toNat,m.toNat) w:=by
 have e1:∀(k:dZ) (y:Nat) (c:BoundsCode) (i:Int),0≤i→i≤y→(Instr.sliceBound (.int k i) y c).run P w= .ok i.toNat w:=by
   intro k y c i hi0 eR;simp[Instr.sliceBound,asIntOf,hi0,eR]
 rcases cg with⟨rfl,rfl⟩| ⟨k,rfl⟩
 · simp[Instr.sliceBounds,e1 k2 cap _ m om h3,e1 k1 m.toNat _ h om om]
 · simp[Instr.sliceBounds,e1 k2 cap _ m om h3,e1 k1 m.toNat _ h om om,e1 k h.toNat _ l h0 om]
noncomputable def yg (P:bB) (st:av) (t:a6) (x:bD) (lo:Option bD) (hi mx:bD):Option V:=
 match st.arg x,eO P t,st.num lo 0,st.arg hi,st.arg mx with
 |some (.v (.c (.p (.sl rows)))),some e,some l,some (.v (.c (.p (.sc (.int _ h))))),some (.v (.c (.p (.sc (.int _ m)))))=>
  if 0≤l∧l≤h∧h≤m∧m.toNat≤rows.length∧bu (da P e) rows=true then some (.v (.c (.p (.sl ((rows.take h.toNat).drop l.toNat)))))else none
 |_,_,_,_,_=>none
section
variable {X:Fx} {E:Env} {st:av} {a:Act} {w:a7}
theorem axg (h:Rel X E st a w) {t} {x hi mx} {lo} {v}
   (he:yg X.P st t x lo hi mx=some v):∃u,(Instr.sliceAt t (a.eval x) (lo.map a.eval) (some (a.eval hi)) (some (a.eval mx))).run X.P w= .ok u w∧RV X.M E w v u:=by
 unfold yg at he;split at he
 · rename_i rows e l k1 hh k2 m hx ht cg gD hmx;obtain⟨hu,kP⟩:=pq ht;split at he
   · rename_i hb;obtain⟨b0,b1,b2,b3,b4⟩:=hb;cases he;have hr:RP (bad X.M E) w (.sl rows) (a.eval x):=(h.bR hx).1;have e1:=RP.dy (h.bR gD).1;have e2:=RP.dy (h.bR hmx).1;obtain⟨A,n,cap,hA,jB⟩:=RP.azi hr;rw[hA]at hr;have h4:=aiV (P:=X.P) true n cap (lo.map a.eval) (k1:=k1) (k2:=k2) (zF h cg) b0 b1 b2 om w;refine⟨_,?_,RP.slice3 hr (pa.1 b4) (l:=l.toNat) (h:=hh.toNat) (m:=m.toNat) om om b3⟩;rw[hA,e1,e2];simp[Instr.sliceAt,Instr.slice,run_underlying hu,h4,run_sizeOf w kP,da]
   · cases he
 · cases he
end
end
end
end Go.Proofs.YtndegphojkiblaaGreatDoor
