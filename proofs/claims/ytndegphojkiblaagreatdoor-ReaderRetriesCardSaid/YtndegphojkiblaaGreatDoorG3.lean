/- A part of the proof. -/
import Derived.Test.YtndegphojkiblaaGreatDoorG2
import Derived.Laws.Tables
import Derived.Laws.BytesArg
import Derived.Laws.IdiomStrings
set_option linter.all false
set_option maxHeartbeats 4000000
set_option maxRecDepth 100000
namespace Go.Proofs.YtndegphojkiblaaGreatDoor
noncomputable section
section
open Go.RowKit
open Classical
def setAt (off:Nat) (l:List bh) (s:Nat) (cs:Array bh):Array bh:=(l.zipIdx s).foldl (fun cs x=>cs.setIfInBounds (off+x.2) x.1) cs
theorem IZ (off) (l) (s) (cs):(setAt off l s cs).size=cs.size:=by
 induction l generalizing s cs with
 |nil=>rfl
 |cons v l ih=>simp_all[setAt]
theorem Lg (off) (l) (s) (cs) (k):(setAt off l s cs)[k]? =if off+s≤k∧k<off+s+l.length∧k<cs.size then l[k- (off+s)]? else cs[k]?:=by
 induction l generalizing s cs with
 |nil=>simp[setAt];intro h1 h2;omega
 |cons v l ih=>
  have:=ih (s+1) (cs.setIfInBounds (off+s) v);simp only[setAt,abD,CT]at this⊢;rw[this];simp only[Array.size_setIfInBounds,ir];by_cases h1:off+s=k
  · subst h1;by_cases h2:off+s<cs.size
    · rw[aC om,ay om];simp[h2]
    · simp[h2]
  · rw[abA,aC h1];by_cases h3:off+s≤k∧k<off+s+(l.length+1)∧k<cs.size
    · rw[ay om,ay h3,show k- (off+s)=(k- (off+(s+1)))+1 by omega];simp
    · rw[aC om,aC h3]
theorem Wt (place) (cells) (i) (v) (rest) {off size} (hp:place i=some (off,size)) (hs:v.cells.size=size) (hf:off+size≤cells.size):
  Instr.fill place cells ((i,v)::rest)=Instr.fill place (setAt off v.cells.toList 0 cells) rest:=by
 have h1:(v.cells.zipIdx.foldl (fun cs x=>cs.setIfInBounds (off+x.2) x.1) cells)=setAt off v.cells.toList 0 cells:=by
  unfold setAt;rw[←Array.foldl_toList];simp
 simp only[Instr.fill,hp];rw[aC (by simp[hs];omega)];rw[←h1]
theorem YA (n):∀(vs:List bh) (k) (cells),(∀v∈vs,v.cells.size=n)→(k+vs.length)*n≤cells.size→
  ∃ us,Instr.fill (fun i=>some (i*n,n)) cells ((vs.zipIdx k).map fun x=> (x.2,x.1))=some us∧us.size=cells.size∧
    (∀j,j<k*n→us[j]? =cells[j]?)∧∀(i) (v) (j),vs[i]? =some v→j<n→us[(k+i)*n+j]? =v.cells[j]?
 |[],k,cells,_,_=> ⟨cells,rfl,rfl,fun _ _=>rfl,fun i v j h=>by simp at h⟩
 | v ::vs,k,cells,hv,hsz=>by
  have h1:=hv v (by simp);have hk:(k+1)*n≤cells.size:=me (fy _ (by simp)) hsz;rw[ot]at hk;obtain⟨us,h2,h3,h4,h5⟩:=YA n vs (k+1) (setAt (k*n) v.cells.toList 0 cells) (fun u hu=>hv u (by simp[hu])) (by rw[IZ];rw[show k+1+vs.length=k+(vs.length+1)by omega];exact hsz);refine⟨us,?_,by rw[h3,IZ],fun j hj=> ?_,fun i u j hi hj=> ?_⟩
  · simp only[abD,cu];rw[Wt _ _ _ _ _ rfl h1 hk];exact h2
  · rw[h4 j (by rw[ot];omega),Lg,aC om]
  · cases i with
    |zero=>
     simp at hi;subst hi;rw[kS,h4 _ (by rw[ot];omega),Lg,ay (by simp[h1];omega)];simp
    |succ i=>
     have:=h5 i u j (by simpa using hi) hj;rw[show k+1+i=k+(i+1)by omega]at this;exact this
theorem nX {α β:Type} {f}:∀{l:List α} {l'},l.mapM f=some l'→l'.length=l.length∧∀(i:Nat) (y:β),l'[i]? =some y→∃x,l[i]? =some x∧f x=some y
 |[],l',h=>by simp_all
 | a::l,l',h=>by
  cases Hi:f a with
  |none=>simp[Hi]at h
  | some b=>
   cases hl:l.mapM f with
   |none=>simp[Hi,hl]at h
   |some l2=>
    simp[Hi,hl]at h;subst h;obtain⟨h1,h2⟩:=nX hl;refine⟨by simp[h1],fun i y hi=> ?_⟩
    cases i with
    |zero=>simp at hi;subst hi;exact⟨a,rfl,Hi⟩
    |succ i=>simpa using h2 i y (by simpa using hi)
def av.eG (st:av) (x:bD):Option V1:=match st.arg x with|some (.v x)=>some x|_=>none
def av.lits (st:av):List bD→Option (List (List PV)×List Nat)
 |[]=>some ([],[])
 | x::xs=>match st.eG x with
  |some y=>match st.sinks y.cells,st.lits xs with
   |some (r,ns),some (rs,ms)=>some (r::rs,ns++ms)
   |_,_=>none
  |none=>none
section
variable {X:Fx} {E:Env} {st:av} {a:Act} {w:a7}
theorem Rel.eG (h:Rel X E st a w) {x} {v} (hx:st.eG x=some v):db X.M E w v (a.eval x)∧(V.v v).live st.ar=true:=by
 unfold av.eG at hx;split at hx
 · rename_i y hy;simp at hx;subst hx;exact h.arg hy
 · cases hx
theorem Rel.lits (h:Rel X E st a w):∀{xs:List bD} {rows:List (List PV)} {ns:List Nat},st.lits xs=some (rows,ns)→rows.length=xs.length∧(∀n∈ns,n<st.next)∧
  ∀eu,(∀n∈ns,n∈eu)→∀(i:Nat) (r:List PV),rows[i]? =some r→∃x,xs[i]? =some x∧r.length=(a.eval x).cells.size∧∀(j:Nat) (p:PV),r[j]? =some p→∃u,(a.eval x).cells[j]? =some u∧RP (bad X.M (E.drop eu)) w p u
 |[],rows,ns,hl=>by simp[av.lits]at hl;simp_all
 | x :: xs,rows,ns,hl=>by
  simp only[av.lits]at hl;split at hl
  · rename_i y hy;split at hl
    · rename_i r ns1 rs ms hs hr;cases hl;obtain⟨h1,h2,h3⟩:=h.lits hr;obtain⟨k1,k2⟩:=h.eG hy;obtain⟨k3,k4⟩:=db.cells k1 (by rw[h.ar];exact k2);obtain⟨s1,s2,_,s4⟩:=h.sinks k3 (fun i c hi=>let⟨u,q1,q2,_⟩:=k4 i c hi; ⟨u,q1,q2⟩) (U' k2) hs;refine⟨by simp[h1],fun n hn=> ?_,fun eu gQ i r' hi=> ?_⟩
      · rcases im.1 hn with h5|h5
        · exact s2 n h5
        · exact h2 n h5
      · cases i with
        | zero=>
          simp_all
        | succ i=>
          simp_all
    · cases hl
  · cases hl
def xW (P:bB) (st:av) (d:Nat) (t:a6) (len:Nat) (parts:List (Nat×bD)):Option (V×g_):=
 match eO P t with
 |some e=>match jP P e,st.lits (parts.map (·.2))with
  |some (n,_),some (rows,ns)=>if parts.map (·.1)=List.range len∧bu n rows=true∧len*n≤16777216 then some (.c (.own d),⟨[(d,.row e rows)],ns⟩)else none
  |_,_=>none
 |none=>none
theorem aiO (h:Rel X E st a w) {d} (hd:E.N d=none) (fv:X.k0≤d) (ec:d<st.next) {t} {len} {parts:Array (Nat×bD)} {v} {ef}
   (he:xW X.P st d t len parts.toList=some (v,ef)):
   ∃u w' E',(Instr.buildSlice t len (parts.map fun x=> (x.1,a.eval x.2))).run X.P w= .ok u w'∧(∀n,n≠d→E.N n=none→E'.N n=none)∧Rel X E' (st.df ef) a w'∧RV X.M E' w' v u:=by
 unfold xW at he;split at he
 · rename_i e ht;obtain⟨hu,kP⟩:=pq ht;split at he
   · rename_i n b rows ns fw sV;obtain⟨i,z,hi,hz,hzs,dh,c_,hib,f_⟩:=wQ fw;split at he
     · rename_i hc;obtain⟨hr,hR,hsz⟩:=hc;rw[pa]at hR;cases he;obtain⟨dQ,aBq,hl2⟩:=h.lits sV;have hpl:parts.toList.length=len:=by have:=bJ List.length hr;simpa using this
       have gP:rows.length=len:=by simp_all
       have aBr:(parts.map fun x=> (x.1,a.eval x.2)).toList=(((parts.toList.map fun x=>a.eval x.2).zipIdx 0).map fun x=> (x.2,x.1)):=by
        apply zh;intro k;simp only[abE,bV,List.getElem?_zipIdx,HY]
        cases hk:parts.toList[k]? with
        |none=>simp
        | some x=>
          have h1:(parts.toList.map (·.1))[k]? =some x.1:=by simp only[bV,hk,aV]
          rw[hr]at h1;have h2:=(dr.1 h1).2;simp[←h2]
       have aad:∀(k:Nat) (u:bh),(parts.toList.map fun x=>a.eval x.2)[k]? =some u→∃r,rows[k]? =some r∧u.cells.size=n∧∀(j:Nat) (p:PV),r[j]? =some p→∃u',u.cells[j]? =some u'∧RP (bad X.M (E.drop ns)) w p u':=by
        intro k u hk;simp only[bV,aT]at hk;obtain⟨x,hx,rfl⟩:=hk;have Oa:k<rows.length:=by rw[gP,←hpl];exact(dr.1 hx).1
        obtain⟨x',h1,h2,h3⟩:=hl2 ns (fun _ h=>h) k _ (bW Oa);simp only[bV,hx,aV,jd]at h1;subst h1;exact⟨_,bW Oa,by rw[←h2];exact hR _ (b8 Oa),h3⟩
       have Ob:∀u∈parts.toList.map (fun x=>a.eval x.2),u.cells.size=n:=by
        intro u hu;obtain⟨k,hk,hku⟩:=iq hu;obtain⟨r,_,h2,_⟩:=aad k u (by rw[←hku];exact bW hk);exact h2
       have hz0:∃z0:Array bh,((Array.range (len*n)).map (z0[· %z0.size]!)).size=len*n∧(Instr.buildSlice t len (parts.map fun x=> (x.1,a.eval x.2))).run X.P w=
          (match Instr.fill (fun i=>some (i*n,n)) ((Array.range (len*n)).map (z0[· %z0.size]!)) (parts.map fun x=> (x.1,a.eval x.2)).toList with
          |some cells=> .ok (.slice (some ⟨w.heap.size,0,none⟩) len len) (w.alloc (.cells cells e))
          |none=> .halt (.stuck "buildSlice: a part of the wrong size") w):=by
        have ee:¬(len*n>16777216):=om;by_cases h0:len*n=0
        · refine⟨#[],by simp,?_⟩;simp[Instr.buildSlice,run_underlying hu,sizeOf,typeInfo,hi,c_,h0];generalize Instr.fill _ _ _=q;cases q<;>simp[newRow]
        · refine⟨z.cells,by simp,?_⟩;simp only[Instr.buildSlice,run_underlying hu,sizeOf,typeInfo,zeroValue,hi,hz,c_,h0,ee,Sem.run_bind,run_program,Result.andThen_ok,Sem.run_pure,if_false];generalize Instr.fill _ _ _=q;cases q<;>simp[newRow]
       obtain⟨z0,hz1,hrun⟩:=hz0;obtain⟨us,h1,h2,_,h4⟩:=YA n (parts.toList.map fun x=>a.eval x.2) 0 ((Array.range (len*n)).map (z0[· %z0.size]!)) Ob (by simp_all);rw[aBr,h1]at hrun;rw[hz1]at h2;have hm:rows.length≤maxLen:=by
        have:len*1≤len*n:=Nat.mul_le_mul_left _ dh;simp only[maxLen];omega
       have hD:=h.drop ns aBq;have pC:(E.drop ns).N d=none:=Env.kB hd;have aab:∀b,(st.df ⟨[],ns⟩).df ⟨[(d,b)],[]⟩=st.df ⟨[(d,b)],ns⟩:=fun b=>by simp[av.df]
       have hf:=hD.uY pC fv ec (e:=e) dh f_.symm hR (cap:=rows.length) (cn _) hm (us:=us) (by rw[h2,gP]) (fun i' r j p hi' hj=>by
        have ik:i'< (parts.toList.map fun x=>a.eval x.2).length:=by simp[hpl,←gP];exact(dr.1 hi').1
        obtain⟨r',kg,h5,h6⟩:=aad i' _ (bW ik);rw[hi']at kg;cases kg;have Cn:j<n:=by rw[←hR r (dn hi')];exact(dr.1 hj).1
        have:=h4 i' _ j (bW ik) Cn;rw[pP]at this;rw[this];exact h6 j p hj) (wd:=w) (.inl rfl)
       rw[aab,gP]at hf;exact⟨_,_,_,hrun,fun k hk jC=>by rw[Env.kX hk];exact Env.kB jC,hf.1,hf.2⟩
     · cases he
   · cases he
 · cases he
end
def RL (M:eS) (E:Env) (w:a7) (cs:List C) (us:Array bh):Prop:=us.size=cs.length∧∀(i:Nat) (c:C),cs[i]? =some c→∃u,us[i]? =some u∧RC M E w c u∧u.oneCell'=true
theorem RL.splice {M} {E} {w} {cs xs} {us} {vs} (h:RL M E w cs us) (hx:RL M E w xs vs.toArray) {off} (hf:off+xs.length≤cs.length):
   RL M E w (cs.take off++xs++cs.drop (off+xs.length)) (setAt off vs 0 us):=by
 have Oc:vs.length=xs.length:=by simpa using hx.1
 refine⟨by simp only[IZ,h.1,bE,cL,jt];omega,fun i c hi=> ?_⟩;rw[Lg];simp only[kS,Oc,h.1,cd]at hi⊢;rw[mg]at hi;simp only[cL,wo (show off≤cs.length by omega)]at hi;split at hi
 · rename_i hio;rw[ti,ay hio]at hi;rw[aC om];exact h.2 i c hi
 · rw[mg]at hi;split at hi
   · rw[ay om];obtain⟨u,h1,h2⟩:=hx.2 _ c hi;simp_all
   · rw[aC om];rw[wi,show off+xs.length+(i-off-xs.length)=i by omega]at hi;exact h.2 i c hi
def uU (place:Nat→Option (Nat×Nat)) (cells:List C):List (Nat×List C)→Option (List C)
 |[]=>some cells
 | (i,x)::rest=>match place i with
  |none=>none
  |some (off,size)=>if x.length=size∧off+x.length≤cells.length then uU place (cells.take off++x++cells.drop (off+x.length)) rest else none
theorem UG {M:eS} {E:Env} {w:a7} (place:Nat→Option (Nat×Nat)):∀(parts:List (Nat×List C)) (vals:List (Nat×bh)) (cells:List C) (us:Array bh) {out:List C},
  vals.length=parts.length→(∀(k:Nat) (x:Nat×List C) (y:Nat×bh),parts[k]? =some x→vals[k]? =some y→y.1=x.1∧RL M E w x.2 y.2.cells)→RL M E w cells us→uU place cells parts=some out→
  ∃pE,Instr.fill place us vals=some pE∧RL M E w out pE
 |[],vals,cells,us,out,hl,_,hr,h=>by
  have:vals=[]:=ni (by simpa using hl);subst this;simp[uU]at h;subst h;exact⟨us,rfl,hr⟩
 | (i,x)::parts,vals,cells,us,out,hl,hv,hr,h=>by
  cases vals with
  |nil=>simp at hl
  | cons y vals=>
   obtain⟨h1,h2⟩:=hv 0 (i,x) y rfl rfl;obtain⟨i',v⟩:=y;subst h1;simp only[uU]at h
   cases hp:place i' with
   |none=>simp[hp]at h
   |some os=>
    simp only[hp]at h;split at h
    · rename_i hc;rw[Wt place us i' v vals hp (by rw[h2.1];exact hc.1) (by rw[←hc.1,hr.1];exact hc.2)];exact UG place parts vals _ _ (by simpa using hl) (fun k x y hx hy=>hv (k+1) x y (by simpa using hx) (by simpa using hy)) (hr.splice (vs:=v.cells.toList) (by simpa using h2) hc.2) h
    · cases h
def GQ (P:bB) (t:a6):Option (List (Nat×Nat)):=match P.underlying t with
 |some (.struct fields)=>fields.toList.mapM (fun f=> (P.info? f.type).map fun i=> (f.offset,i.size))
 |some (.array n e)=>match P.info? e with
  |some i=>some ((List.range n).map fun k=> (k*i.size,i.size))
  |none=>none
 |_=>none
theorem xu {P} {M} {E} {w} {t} {cs} (h:pz P t=some cs):∃i z,P.info? t=some i∧i.zero=some z∧RL M E w cs z.cells:=by
 unfold pz at h;split at h
 · rename_i i hi;split at h
   · rename_i z hz;split at h
     · rename_i hall;simp at h;subst h;refine⟨i,z,hi,hz,by simp,fun k c hk=> ?_⟩;simp only[bV,aT,abB]at hk;obtain⟨u,h1,rfl⟩:=hk;exact⟨u,h1,NG M E w u,by simp only[bC]at hall;exact hall u (Array.mem_toList_iff.2 (abF h1))⟩
     · cases h
   · cases h
 · cases h
noncomputable def yc (P:bB) (st:av) (t:a6) (parts:Array (Nat×bD)):Option V:=
 match pz P t,GQ P t,parts.toList.mapM (fun x=> (st.eG x.2).map fun y=> (x.1,y.cells))with
 |some zs,some ps,some xs=> (uU (ps[·]?) zs xs).map fun cs=> .v (.agg cs)
 |_,_,_=>none
theorem Vw {p q} (h:∀i x,p i=some x→q i=some x):∀(l) (us pE),Instr.fill p us l=some pE→Instr.fill q us l=some pE
 |[],us,pE,h'=>h'
 | (i,v)::l,us,pE,h'=>by
  simp only[Instr.fill]at h'⊢
  cases hp:p i with
  |none=>simp[hp]at h'
  |some x=>
   rw[h i x hp];simp only[hp]at h'⊢;split at h'
   · cases h'
   · rename_i hc;rw[aC hc];exact Vw h l _ _ h'
theorem azv {X} {E} {st} {a} {w} (h:Rel X E st a w) {t} {parts} {v}
   (he:yc X.P st t parts=some v):∃u,(Instr.build t (parts.map fun x=> (x.1,a.eval x.2))).run X.P w= .ok u w∧RV X.M E w v u:=by
 unfold yc at he;split at he
 · rename_i zs ps xs hz hp hx;simp at he;obtain⟨cs,hcs,rfl⟩:=he;obtain⟨i,z,hi,hzz,jm⟩:=xu (M:=X.M) (E:=E) (w:=w) hz;obtain⟨dQ,hl2⟩:=nX hx;obtain⟨us,h1,h2⟩:=UG (M:=X.M) (E:=E) (w:=w) (ps[·]?) xs (parts.map fun x=> (x.1,a.eval x.2)).toList zs z.cells (by simp[dQ]) (fun k x y hk hy=>by
     obtain⟨o,h3,h4⟩:=hl2 k x hk;simp only[abE,bV,h3,aV,jd]at hy;subst hy;simp only[aT]at h4;obtain⟨y1,h5,rfl⟩:=h4;obtain⟨h6,h7⟩:=h.eG h5;exact⟨rfl,db.cells h6 (by rw[h.ar];exact h7)⟩) jm hcs
   refine⟨_,run_build w t _ us ?_,us,rfl,h2.1,h2.2⟩;unfold Program.built;unfold GQ at hp;split at hp
   · simp_all
   · rename_i n e hu;split at hp
     · rename_i ie kP;simp at hp;subst hp;simp only[hi,hu,hzz,kP];refine Vw (fun k x hk=> ?_) _ _ _ h1;simp only[bV,aT]at hk;obtain⟨k',bZ,rfl⟩:=hk;have:=(dr.1 bZ).2;simp[←this]
     · cases hp
   · cases hp
 · cases he
def gO (l:List Int):List (List PV):=l.map fun n=> [.sc (.int .u8 n)]
def xp:List PV→Option Int
 |[.sc (.int .u8 n)]=>some n
 |_=>none
def ny (rows:List (List PV)):Option (List Int):=rows.mapM xp
theorem axj (l):ny (gO l)=some l:=by
 unfold ny gO
 induction l with
 |nil=>rfl
 |cons n l ih=>simp_all[xp]
theorem Xy (l):eI 1 (gO l):=by intro r hr;simp[gO]at hr;obtain⟨n,_,rfl⟩:=hr;rfl
theorem KX (l):(gO l).length=l.length:=by simp[gO]
theorem Tz (l) (n:Nat):(gO l)[n]? =(l[n]?).map fun n=> [.sc (.int .u8 n)]:=by simp[gO]
def lq (P:bB) (st:av) (s d:a6) (x:bD):Option V:=
 match st.arg x with
 |some (.v (.c (.p (.sc (.int _ n)))))=>match P.underlying s,P.underlying d with
  |some _,some (.int k)=>some (.sc (.int k (k.wrap n)))
  |_,_=>none
 |some (.v (.c (.p (.sc (.string b)))))=>match P.underlying s,P.underlying d with
  |some .string,some .string=>some (.sc (.string b))
  |_,_=>none
 | some (.v (.c c))=>match st.view c,P.underlying s,P.underlying d with
  |some rows,some (.slice e),some .string=>match P.underlying e,ny rows with
   |some (.int .u8),some l=>some (.sc (.string (strOfNums l)))
   |_,_=>none
  |_,_,_=>none
 |_=>none
section
variable {X:Fx} {E:Env} {st:av} {a:Act} {w:a7}
theorem Rel.Fm (h:Rel X E st a w) {x} {c} {rows} (hx:st.arg x=some (.v (.c c))) (hv:st.view c=some rows):Rows (bad X.M E) w rows (a.eval x):=
 h.view (h.bR hx).1 (h.bR hx).2.2 hv
theorem aip (h:Rel X E st a w) {s d} {x} {v}
   (he:lq X.P st s d x=some v):∃u,(convert s d (a.eval x)).run X.P w= .ok u w∧RV X.M E w v u:=by
 unfold lq at he;split at he
 · rename_i k n hx;have h3:=RP.dy (h.bR hx).1;split at he
   · rename_i ds k' hs hd;simp at he;subst he;refine⟨_,?_,.sc rfl⟩;rw[h3];simp[convert,run_underlying hs,run_underlying hd,Conv.intToInt]
   · cases he
 · rename_i b hx;have h3:=RP.dy (h.bR hx).1;split at he
   · rename_i hs hd;simp at he;subst he;refine⟨_,?_,.sc rfl⟩;rw[h3];simp[convert,run_underlying hs,run_underlying hd]
   · cases he
 · rename_i c _ _ hx;split at he
   · rename_i rows e hp hs hd;split at he
     · rename_i l gE hl;simp at he;subst he;refine⟨_,?_,.sc rfl⟩;have Hj:=h.Fm hx hp;obtain⟨dQ,hl2⟩:=nX hl;rcases Hj with⟨rfl,A,cap,gb⟩| ⟨g,o,cap,sz,f,gb,h0,hlc,hm,hss,hcc⟩
       · rw[gb];simp[ny]at hl;subst hl
         cases A with
         |none=>exact run_convert_bytes_nil w s e hs gE 0 cap d hd
         |some A=>
          rw[run_convert_bytes_string w s d e _ 0 cap hs gE hd];rfl
       · rw [gb];have key:∀(i:Nat) (r:List PV),rows[i]? =some r→∃n,l[i]? =some n∧r=[.sc (.int .u8 n)]:=by
          intro i r hi;have n4:i<l.length:=by rw[dQ];exact(dr.1 hi).1
          obtain⟨r',h4,h5⟩:=hl2 i _ (bW n4);rw[hi]at h4;cases h4;refine⟨_,bW n4,?_⟩;unfold xp at h5;split at h5
          · simp at h5;rw[h5]
          · cases h5
         have hsz:sz=1:=by
          cases rows with
          |nil=>simp_all
          | cons r rs=>
            obtain⟨n,_,hr⟩:=key 0 r rfl;have:=hss r (by simp);simp_all
         subst hsz;refine run_convert_bytes_arg w s e hs gE g o rows.length cap l dQ (fun i hi=> ?_) d hd;obtain⟨n,h4,h5⟩:=key i _ (bW hi);obtain⟨h6,h7⟩:=hcc i _ 0 (.sc (.int .u8 n)) (bW hi) (by rw[h5];rfl);have h7:=RP.dy h7;rw[h7]at h6;simp only[Po,kS]at h6;rw[h6];simp[List.getD,h4]
     · cases he
   · cases he
 · cases he
def oX (P:bB) (st:av) (t:a6) (x:bD):Option V:=
 match st.arg x with
 |some (.v (.c (.p (.sc (.string b)))))=>match P.underlying t with
  |some .string=>some (.sc (.int .i64 b.size))
  |_=>none
 |some (.v (.c c))=>match st.view c,P.underlying t with
  |some rows,some (.slice _)=>some (.sc (.int .i64 rows.length))
  |_,_=>none
 |_=>none
theorem Rows.len {M} {w} {rows} {v} (h:Rows M w rows v):∃A cap,v= .slice A rows.length cap∧(rows≠ []→rows.length≤cap∧∃g o,A=some ⟨g,o,none⟩):=by
 rcases h with⟨rfl,A,cap,rfl⟩| ⟨g,o,cap,sz,f,rfl,h0,hl,_⟩
 · simp_all
 · exact⟨_,cap,rfl,fun _=> ⟨hl,g,o,rfl⟩⟩
theorem aeL (h:Rel X E st a w) {t ty} {x} {v}
   (he:oX X.P st t x=some v):∃u,(Builtin.len_ #[t] ty #[a.eval x]).run X.P w= .ok u w∧RV X.M E w v u:=by
 unfold oX at he;split at he
 · rename_i b hx;have h3:=RP.dy (h.bR hx).1;split at he
   · rename_i hu;simp at he;subst he;refine⟨_,?_,.sc rfl⟩;rw[h3];simp[Builtin.len_,run_underlying hu,goInt]
   · cases he
 · rename_i c _ hx;split at he
   · rename_i rows e hp hu;simp at he;subst he;refine⟨_,?_,.sc rfl⟩;obtain⟨A,cap,hv,_⟩:=(h.Fm hx hp).len;rw[hv];simp[Builtin.len_,run_underlying hu,goInt]
   · cases he
 · cases he
def yD:UnOp→bh→Option bh
 | .not,.bool b=>some (.bool (!b))
 | .neg,.int k n=>some (.int k (k.wrap (0-n)))
 | .xor,.int k n=>some (bitsOf k (BitVec.ofInt k.bits (if k.signed then-1 else k.max) ^^^BitVec.ofInt k.bits n))
 |_,_=>none
theorem agq {P} {op} {u v} (h:yD op u=some v) (w):(Op.unary op u).run P w= .ok v w∧flat v=true:=by
 unfold yD at h;split at h
 · simp at h;subst h;exact⟨rfl,rfl⟩
 · simp at h;subst h;exact⟨by simp[Op.unary,Op.intArith],rfl⟩
 · simp at h;subst h;exact⟨by rfl,rfl⟩
 · cases h
def C.pv:C→Option PV
 | .p q=>some q
 | .nil=>some (.sl [])
 |_=>none
theorem RC.pv {M} {E} {w} {c} {v} {p} (h:RC M E w c v) (hp:c.pv=some p):RP (bad M E) w p v:=by
 cases c with
 |p q=>simp[C.pv]at hp;subst hp;exact h
 |nil=>simp[C.pv]at hp;subst hp;cases h;exact .nil
 |_=>cases hp
def lK (cs:List C):Option (List PV):=cs.mapM C.pv
def yz (P:bB) (st:av) (d:Nat) (t:a6) (l c:bD):Option (V×g_):=
 match eO P t,st.arg l,st.arg c with
 | some e,some (.v (.c (.p (.sc (.int _ n))))),some (.v (.c (.p (.sc (.int _ m)))))=>match jP P e,pz P e with
  |some (_,b),some zs=>match lK zs with
   |some z=>if n=m∧0≤n∧n≤9223372036854775807∧b*n.toNat≤281474976710656 then some (.c (.own d),⟨[(d,.row e (List.replicate n.toNat z))],[]⟩)else none
   |none=>none
  |_,_=>none
 |_,_,_=>none
theorem ajV (h:Rel X E st a w) {d} (hd:E.N d=none) (fv:X.k0≤d) (ec:d<st.next) {t} {l c} {v} {ef}
   (he:yz X.P st d t l c=some (v,ef)):
   ∃u w' E',(Instr.makeSlice t (a.eval l) (a.eval c)).run X.P w= .ok u w'∧(∀n,n≠d→E.N n=none→E'.N n=none)∧Rel X E' (st.df ef) a w'∧RV X.M E' w' v u:=by
 unfold yz at he;split at he
 · rename_i e k1 n k2 m ht hl hc;obtain⟨hu,kP⟩:=pq ht;have h3:=RP.dy (h.bR hl).1;have h4:=RP.dy (h.bR hc).1;split at he
   · rename_i k b zs fw hz;obtain⟨i,z,hi,hzz,hzs,dh,c_,hib,f_⟩:=wQ fw;obtain⟨i',z',hi',sW,jm⟩:=xu (M:=X.M) (E:=E) (w:=w) hz;rw[hi]at hi';cases hi';rw[hzz]at sW;cases sW;split at he
     · rename_i zp Co;split at he
       · rename_i kc;obtain⟨rfl,h0,pF,hb⟩:=kc;have hm:n.toNat≤maxLen:=by simp only[maxLen];omega
         cases he;obtain⟨dQ,hl2⟩:=nX Co;have hzl:zp.length=k:=by rw[dQ,←jm.1,hzs]
         have hmx:n≤9223372036854775807:=pF;have Cp:(i.bytes:Int)*n≤281474976710656:=by
          rw[hib];have:((b*n.toNat:Nat):Int)≤281474976710656:=om
          rwa [Int.natCast_mul,abG h0]at this
         have hr:=run_make (P:=X.P) w t e i z hu hi hzz k1 k2 n n h0 (Int.le_refl _) Cp hmx;rw[c_]at hr;have hR:eI k (List.replicate n.toNat zp):=fun r hr=>by simp_all
         have hf:=h.uY hd fv ec (e:=e) dh f_.symm (rows:=List.replicate n.toNat zp) hR (cap:=n.toNat) (by simp) hm (us:=madeCells z.cells (n.toNat*k)) (by rw[size_madeCells]) (fun i' r j' p h5 h6=>by
          have kg:r=zp:=(Pp.1 (dn h5)).2;subst kg;have ik:i'<n.toNat:=by have:=(dr.1 h5).1;simpa using this
          have hj':j'<k:=by rw[←hzl];exact(dr.1 h6).1
          obtain⟨cc,h7,h8⟩:=hl2 j' p h6;obtain⟨u',h9,h10,_⟩:=jm.2 j' cc h7;have hlt:i'*k+j'<n.toNat*k:=by
           have:(i'+1)*k≤n.toNat*k:=fy _ ik;rw[ot]at this;omega
          refine⟨u',?_,RC.pv h10 h8⟩;simp only[madeCells,Array.getElem?_map,Array.getElem?_range,hlt,if_true,aV,jd];rw[hzs,show(i'*k+j')%k=j' by rw[Pn,abH,zi hj']];simp_all) (wd:=w) (.inl rfl)
         simp only[pQ]at hf;exact⟨_,_,_,by rw[h3,h4];exact hr,fun k hk jC=>by rw[Env.kX hk];exact jC,hf.1,hf.2⟩
       · cases he
     · cases he
   · cases he
 · cases he
def qa (P:bB) (st:av) (t:a6) (x y:bD):Option (V×g_):=
 match eO P t,st.arg x,st.arg y with
 | some e,some (.v (.c cx)),some (.v (.c cy))=>match st.view cx,st.view cy with
  | some _,some src=>match cx with
   | .own n=>match st.heap.lookup n with
    |some (.row e' rows)=>let m:=min src.length rows.length
     if e'=e∧bu (da P e) src=true then some (.sc (.int .i64 m),⟨[(n,.row e (src.take m++rows.drop m))],[]⟩)else none
    |_=>none
   | .sub n lo len=>match st.heap.lookup n with
    |some (.row e' rows)=>let m:=min src.length len
     if e'=e∧bu (da P e) src=true∧lo+len≤rows.length then some (.sc (.int .i64 m),⟨[(n,.row e (rows.take lo++src.take m++rows.drop (lo+m)))],[]⟩)else none
    |_=>none
   |_=>none
  |_,_=>none
 |_,_,_=>none
theorem anO (h:Rel X E st a w) {t t2 ty} {x y} {v} {ef} (he:qa X.P st t x y=some (v,ef)):
   ∃u w',(Builtin.copy_ #[t,t2] ty #[a.eval x,a.eval y]).run X.P w= .ok u w'∧Rel X E (st.df ef) a w'∧RV X.M E w' v u:=by
 unfold qa at he;split at he
 · rename_i e cx cy ht hx hy;obtain⟨hu,kP⟩:=pq ht;split at he
   · rename_i rowsx src Hk hvy;have hys:=h.Fm hy hvy;have key : ∀ (n lo len:Nat) (e':a6) (rows:List (List PV)),n∉st.ar→st.heap.lookup n=some (.row e' rows)→e'=e→bu (da X.P e) src=true→lo+len≤rows.length→
         (∃z A c,E.N n=some z∧a.eval x= .slice A len c∧(0<len→∃g,z.g=some g∧A=some ⟨g,lo*z.sz,none⟩))→
         ∃u w',(Builtin.copy_ #[t,t2] ty #[a.eval x,a.eval y]).run X.P w= .ok u w'∧Rel X E (st.df ⟨[(n,.row e (rows.take lo++src.take (min src.length len)++rows.drop (lo+min src.length len)))],[]⟩) a w'∧RV X.M E w' (.sc (.int .i64 (min src.length len:Nat))) u:=by
       rintro n lo len e' rows ew hl rfl hR hlen ⟨z,A,c,hN,gb,hA⟩;rw[pa]at hR;obtain⟨z',cur,fz,k1,bX,k2,k3,k4,k5,k6,k7,k8,k9,i_,ly⟩:=h.row ew hl;rw[hN]at k1;cases k1;have hsz:da X.P e'=z.sz:=k7.symm;rw[hsz]at hR;have qN:(src.take (min src.length len)).length=min src.length len:=by simp
       have iJ:eI z.sz (rows.take lo++src.take (min src.length len)++rows.drop (lo+min src.length len)):=((k9.take _).app (hR.take _)).app (fun r hr=>k9 r (wh hr));rw[gb];by_cases h0:min src.length len=0
       ·
         have hrow:rows.take lo++src.take 0++rows.drop (lo+0)=rows:=by simp
         have hres:(Builtin.copy_ #[t,t2] ty #[.slice A len c,a.eval y]).run X.P w= .ok (.int .i64 0) w:=by
           obtain⟨B,cap,hv,hB⟩:=hys.len;have Z9:Nat.min src.length len=0:=h0;rw[hv];obtain⟨i,hi⟩:=ze.1 kP;cases A<;>cases B<;>simp[Builtin.copy_,run_underlying hu,Builtin.lenOf,Builtin.firstCells,sizeOf,typeInfo,hi,Z9,loadCells,loadCellsFrom,storeCells,goInt]
         refine⟨_,w,hres,?_,?_⟩
         · have pD:=h.step ⟨[(n,.row e' rows)],[]⟩ (E':=E) (w':=w) (nx:=st.next) (cn _) ⟨fun _ _ _ h1 h2=> ⟨h1,h2⟩,fun _ _ h=> .inr h,fun _ h=>h⟩ (by simp[h.ar]) h.frame h.cO h.names h.inj (fun _ _=> .inr rfl) (by simp) (fun _ _ _ _ _ _ _=>rfl) (fun m b hb=>by
            simp only[gW,oq]at hb;split at hb
            · rename_i heq;simp at heq;subst heq;cases hb;exact .inr (h.row ew hl)
            · cases hb)
           rw[h0,hrow];exact pD
         · rw[h0];exact .sc rfl
       · have aBw:0<len:=om;obtain⟨g,hg,hA⟩:=hA aBw;subst hA;have hblk:=k2 g hg;have aBx:src≠ []:=by rintro rfl;simp at h0
         rcases hys.src hR with⟨h1,_⟩| ⟨gs,os,cap,news,hye,hne,gC,hcell,lz,hval⟩
         · exact absurd h1 aBx
         · have vK:lo*z.sz+(min src.length len)*z.sz≤cur.size:=by
            rw[k8,←kl];exact fy _ om
           have hnews:(news.take (min src.length len*z.sz)).length=min src.length len*z.sz:=by
            rw[cL,gC];exact wo (fy _ (abI _ _))
           have aaf:=run_loadCells (P:=X.P) w ⟨gs,os,none⟩ (min src.length len*z.sz) (fun j=> (news[j]?).getD undef) (fun j hj=>by
            have hj':j<news.length:=by rw[gC];exact oo hj (fy _ (abI _ _))
            rw[hcell j _ (bW hj')];simp[hj'])
           have aBz:(List.range (min src.length len*z.sz)).map (fun j=> (news[j]?).getD undef)=news.take (min src.length len*z.sz):=by
            apply zh;intro j;rw[bV,ti];split
            · rename_i hj;have hj':j<news.length:=by rw[gC];exact oo hj (fy _ (abI _ _))
              simp[wq hj,hj']
            · simp;omega
           have aag:=B2 X.P g (lo*z.sz) e' fz (news.take (min src.length len*z.sz)) 0 cur w bX hblk om (fun u hu=>lz u (mf hu));have hn:Nat.min src.length len=min src.length len:=rfl;have hw :=(h.write hN hg hblk ((cur.toList.take (lo*z.sz)++news.take (min src.length len*z.sz)++cur.toList.drop (lo*z.sz+(news.take (min src.length len*z.sz)).length)).toArray) [] (by simp) (.row e' (rows.take lo++src.take (min src.length len)++rows.drop (lo+min src.length len))) (fun hG ic _=>by
            refine⟨z,_,fz,by exact hN,(by
              have e1:(cur.toList.take (lo*z.sz)++news.take (min src.length len*z.sz)++cur.toList.drop (lo*z.sz+(news.take (min src.length len*z.sz)).length)).toArray.size=cur.size:=by simp[hnews];omega
              rw[e1];exact bX),fun g' hg'=>by rw[hg]at hg';cases hg';exact ic,by simp;omega,k4,k5,k6,k7,by simp;omega,iJ,i_,fun i r j p hi hj=> ?_⟩
            have hjz:j<z.sz:=by rw[←iJ r (dn hi)];exact(dr.1 hj).1
            rw[hnews]at hG;rw[CR,sD (by rw[hnews];omega),hnews];have hsp:=sD (l:=rows) (ys:=src.take (min src.length len)) (off:=lo) (k:=i) om;rw[qN]at hsp;rw[hsp]at hi;split at hi
            · have hlt:(i-lo+1)*z.sz≤min src.length len*z.sz:=fy _ om;have e1:i*z.sz=lo*z.sz+(i-lo)*z.sz:=by rw[←kl];congr 1;omega
              rw[ot]at hlt;rw[ay om,ti,ay om];obtain⟨u,q1,q2⟩:=hval _ r j p (DC hi).1 hj;exact⟨u,by rw[←q1];congr 1;omega,q2.goes hG⟩
            · rename_i hc;have hno:¬(lo*z.sz≤i*z.sz+j∧i*z.sz+j<lo*z.sz+min src.length len*z.sz):=by
               rintro⟨q1,q2⟩;apply hc;rw[←kl]at q2;refine⟨?_,?_⟩
               · rcases rz i lo with h7|h7
                 · have:(i+1)*z.sz≤lo*z.sz:=fy _ h7;rw[ot]at this;omega
                 · exact h7
               · rcases rz i (lo+min src.length len)with h7|h7
                 · exact h7
                 · have:(lo+min src.length len)*z.sz≤i*z.sz:=fy _ h7;omega
              rw[aC hno];obtain⟨u,q1,q2⟩:=ly i r j p hi hj;exact⟨u,by simpa using q1,q2.goes hG⟩)).2
           refine⟨.int .i64 (min src.length len:Nat),_,?_,hw,.sc rfl⟩;rw[hye];rw[aBz]at aaf;generalize w.setRow g _=W at aag⊢;simp[Builtin.copy_,run_underlying hu,Builtin.lenOf,Builtin.firstCells,run_sizeOf w kP,hsz,hn,aaf,goInt];rw[aag];rfl
     split at he
     · rename_i n;have ew:=(h.bR hx).2.2 n (by simp[C.names]);split at he
       · rename_i e' rows hl;split at he
         · rename_i hc;cases he;obtain⟨z,k1,k2⟩:=bO.get (h.bR hx).1 (h.gL hx (n:=n) (by simp[C.names]));obtain⟨z',cur,fz,j1,bX,j2,j3,j4,j5,j6,j7,j8,j9,vL,Cq⟩:=h.row ew hl;rw[k1]at j1;cases j1;have:=key n 0 rows.length e' rows ew hl hc.1 hc.2 om ⟨z,_,_,k1,by rw[←j3];exact k2,fun h0=>by
            cases hg:z.g with
            |none=>have:=vL hg;omega
            |some g=>exact⟨g,rfl,by simp⟩⟩
           simpa using this
         · cases he
       · cases he
     · rename_i n lo len;have ew:=(h.bR hx).2.2 n (by simp[C.names]);split at he
       · rename_i e' rows hl;split at he
         · rename_i hc;cases he;obtain⟨z,k1,k2,A,k3,k4⟩:=bO.get (h.bR hx).1 (h.gL hx (n:=n) (by simp[C.names]));obtain⟨z',cur,fz,j1,bX,j2,j3,j4,j5,j6,j7,j8,j9,vL,Cq⟩:=h.row ew hl;rw[k1]at j1;cases j1;exact key n lo len e' rows ew hl hc.1 hc.2.1 hc.2.2 ⟨z,_,_,k1,k3,fun h0=>by
            cases hg:z.g with
            |none=>have:=vL hg;omega
            |some g=>exact⟨g,rfl,by rw[k4 (.inl om),hg];rfl⟩⟩
         · cases he
       · cases he
     · cases he
   · cases he
 · cases he
end
structure Own (P:bB) (f:FuncId):Prop where
 fn:∃fn,P.funcs[f]? =some fn∧(fn.name== "runtime.NumGoroutine")=false∧fn.body.isNone=false
def hp (H:List dI):Hp:=H.zipIdx.map fun x=> (x.2,x.1)
theorem Sh:∀(H:List dI) (k n),List.lookup n ((H.zipIdx k).map fun x=> (x.2,x.1))=if k≤n then H[n-k]? else none
 |[],k,n=>by simp
 |b::H,k,n=>by
  simp only[abD,cu,gW,Sh H (k+1) n];by_cases h:n=k
  · subst h;simp
  · rw[beq_eq_false_iff_ne.2 h];by_cases h2:k≤n
    · rw[ay h2,ay om];obtain⟨m,rfl⟩:∃m,n=k+1+m:=⟨n- (k+1),om⟩
      simp[show k+1+m-k=m+1 by omega]
    · rw[aC h2,aC om]
theorem VE (H) (n):(hp H).lookup n=H[n]?:=by simp[hp,Sh]
structure xO (N:Nat→Option Nm) (k:Nat) (w w':a7) (E':Env):Prop where
 ar:E'.ar=[]
 names:∀n x g,E'.N n=some x→x.g=some g→g<w'.heap.size∧((∃m y,N m=some y∧y.g=some g)∨w.heap.size≤g)
 inj:∀n m x y g,E'.N n=some x→E'.N m=some y→x.g=some g→y.g=some g→n=m
 dz:∀m,m<k→E'.N m=none∨E'.N m=N m
structure eJ (P:bB) (f:FuncId) (args:List V1) (H:List dI) (r:V) (H':Hp):Prop where
 own:Own P f
 call:∀(w:a7) (M:eS) (N:Nat→Option Nm) (vals:Array bh),(∀g,M g→g<w.heap.size)→(∀n x,N n=some x→n<H.length)→
  (∀n x g,N n=some x→x.g=some g→g<w.heap.size∧¬M g)→(∀n m x y g,N n=some x→N m=some y→x.g=some g→y.g=some g→n=m)→
  (∀n b,H[n]? =some b→RB P M ⟨N,[]⟩ w n b)→vals.size=args.length→
  (∀(i:Nat) (x:V1),args[i]? =some x→∃u,vals[i]? =some u∧db M ⟨N,[]⟩ w x u)→
  Calls P f vals w fun e w'=>∃v E',e= .returned v∧Frame (fun g=>∃n x,N n=some x∧x.g=some g) w w'∧xO N H.length w w' E'∧
   (∀n b,H'.lookup n=some b→RB P M E' w' n b)∧RV M E' w' r v
def C.cR (ρ:Nat→Nat):C→C
 | .own n=> .own (ρ n)| .sub n lo len=> .sub (ρ n) lo len| .ptr n off=> .ptr (ρ n) off| .cE n i j=> .cE (ρ n) i j| .mp n=> .mp (ρ n)| .fn f cN=> .fn f (cN.map ρ)|c=>c
def V1.on (f:C→C):V1→V1
 | .c x=> .c (f x)
 | .agg xs=> .agg (xs.map f)
def V.on (f:C→C):V→V
 | .v x=> .v (x.on f)
 | .aj xs=> .aj (xs.map (V1.on f))
def dI.on (f:C→C):dI→dI
 | .box cs=> .box (cs.map f)
 |b=>b
def dI.names:dI→List Nat
 | .box cs=>cs.flatMap C.names
 |_=> []
def Hp.cR (ρ:Nat→Nat) (H:Hp):Hp:=H.map fun x=> (ρ x.1,x.2.on (C.cR ρ))
def PV.bare:PV→Bool
 | .sc _=>true
 | .sl rows=>rows.isEmpty
def C.bare:C→Bool
 | .p q=>q.bare
 | .ref _=>false
 |_=>true
def V1.bare:V1→Bool
 | .c x=>x.bare
 | .agg xs=>xs.all C.bare
def V.bare:V→Bool
 | .v x=>x.bare
 | .aj xs=>xs.all V1.bare
def dI.bare:dI→Bool
 | .box cs=>cs.all C.bare
 | .row _ rows=>rows.all (·.all PV.bare)
 | .map es=>es.all (·.all PV.bare)
theorem RP.bare {M M'} {w} {q} {v} (hb:q.bare=true) (h:RP M w q v):RP M' w q v:=by
 cases h with
 |sc h=>exact .sc h
 |nil=>exact .nil
 |row h0=>simp[PV.bare]at hb;exact absurd hb h0
theorem gY.bare {B B' w}:∀{en es},gY B w en es→es.all (·.all PV.bare)=true→gY B' w en es
 |[],[],_,_=>trivial
 | m::_,r::_,⟨h1,h2⟩,hb=>by
  simp only[Pq,bt]at hb;refine⟨?_,h2.bare hb.2⟩
  match r,h1,hb.1 with
  | .sc (.int .u64 _)::ps,⟨k1,us,k2,k3,k4⟩,hb=>
   simp only[Pq,bt,bC]at hb;exact⟨k1,us,k2,k3,fun j p hj=>let⟨u,q1,q2,q3⟩:=k4 j p hj; ⟨u,q1,q2.bare (hb.2 p (dn hj)),q3⟩⟩
section
variable {M M':eS} {E E':Env} {w:a7} {f:C→C}
theorem db.on (hf:∀c v,RC M E w c v→RC M' E' w (f c) v) {x} {v} (h:db M E w x v):db M' E' w (x.on f) v:=by
 cases x with
 |c c=>exact hf c v h
 |agg cs=>
  obtain⟨us,h1,h2,h3⟩:=h;refine⟨us,h1,by simp[h2],fun i c hi=> ?_⟩;simp only[bV,aT]at hi;obtain⟨c',hc',rfl⟩:=hi;obtain⟨u,h4,h5,h6⟩:=h3 i c' hc';exact⟨u,h4,hf c' u h5,h6⟩
theorem RV.on (hf:∀c v,RC M E w c v→RC M' E' w (f c) v) {x} {v} (h:RV M E w x v):RV M' E' w (x.on f) v:=by
 cases x with
 |v x=>exact db.on hf h
 |aj xs=>
  obtain⟨us,h1,h2,h3⟩:=h;refine⟨us,h1,by simp[h2],fun i c hi=> ?_⟩;simp only[bV,aT]at hi;obtain⟨c',hc',rfl⟩:=hi;obtain⟨u,h4,h5⟩:=h3 i c' hc';exact⟨u,h4,db.on hf h5⟩
theorem RC.cR {ρ} {c} {v} (hs:h_ (bad M E) (bad M' E') w w∨c.bare=true) (hN:∀n∈c.names,n∉E.ar∧∀x,E.N n=some x→E'.N (ρ n)=some x) (h:RC M E w c v):RC M' E' w (c.cR ρ) v:=by
 have nm:∀n (Q:Nm→Prop),n∈c.names→bO E n Q→bO E' (ρ n) Q:=by
  intro n Q hn hq;obtain⟨x,h1,h2⟩:=bO.get hq (hN n hn).1;exact .inr ⟨x,(hN n hn).2 x h1,h2⟩
 cases c with
 |p q=>exact hs.elim (fun hs=>RP.trans h hs) (fun hb=>RP.bare hb h)
 |nil=>exact h
 |own n=>exact nm n _ (by simp[C.names]) h
 |sub n lo len=>exact nm n _ (by simp[C.names]) h
 |ptr n off=>exact nm n _ (by simp[C.names]) h
 |cE n i j=>exact nm n _ (by simp[C.names]) h
 |ref cells=>
  rcases hs with hs|hs
  · obtain⟨g,o,h1,h2⟩:=h;refine⟨g,o,h1,fun j p hj=> ?_⟩;obtain⟨u,h3,h4,h5⟩:=h2 j p hj;exact⟨u,h3,(hs _ _ _ h3 h4).2,h5.trans hs⟩
  · cases hs
 |fn f cN=>
  obtain⟨us,h1,h2,h3⟩:=h;refine⟨us,h1,by simp[h2],fun i n hi=> ?_⟩;simp only[bV,aT]at hi;obtain⟨m,hm,rfl⟩:=hi;obtain⟨u,h4,h5⟩:=h3 i m hm;exact⟨u,h4,nm m _ (by exact dn hm) h5⟩
 |mp n=>exact nm n _ (by simp[C.names]) h
 |dead=>trivial
theorem RB.cR {P} {ρ} {n} {b} (hs:h_ (bad M E) (bad M' E') w w∨b.bare=true) (hn:∀x,E.N n=some x→E'.N (ρ n)=some x) (hN:∀n∈b.names,n∉E.ar∧∀x,E.N n=some x→E'.N (ρ n)=some x) (h:RB P M E w n b):
  RB P M' E' w (ρ n) (b.on (C.cR ρ)):=by
 have rp:∀{q:PV} {v:bh},(b.bare=true→q.bare=true)→RP (bad M E) w q v→RP (bad M' E') w q v:=fun hb hq=>hs.elim (fun hs=>hq.trans hs) (fun h=>RP.bare (hb h) hq)
 cases b with
 |box cs=>
  obtain⟨x,g,cur,e,h1,h0,h2,h3,h4⟩:=h;refine⟨x,g,cur,e,hn x h1,h0,h2,by simp[h3],fun i c hi=> ?_⟩;simp only[bV,aT]at hi;obtain⟨c',hc',rfl⟩:=hi;obtain⟨u,h5,h6,h7⟩:=h4 i c' hc';have hm:=dn hc';refine⟨u,h5,RC.cR (hs.imp id fun hb=> ?_) (fun m pF=>hN m (th.2 ⟨c',hm,pF⟩)) h6,h7⟩;simp only[dI.bare,bC]at hb;exact hb c' hm
 |row e rows=>
  obtain⟨x,cur,fz,h1,bX,h2,h3,h4,h5,h6,h11,h7,h8,h10,h9⟩:=h;refine⟨x,cur,fz,hn x h1,bX,h2,h3,h4,h5,h6,h11,h7,h8,h10,fun i r j p hi hj=> ?_⟩;obtain⟨u,k1,k2⟩:=h9 i r j p hi hj;refine⟨u,k1,rp (fun hb=> ?_) k2⟩;simp only[dI.bare,bC]at hb;exact hb r (dn hi) p (dn hj)
 |map es=>
  obtain⟨x,g,en,clock,h1,h0,h2,h3⟩:=h;exact⟨x,g,en,clock,hn x h1,h0,h2,hs.elim h3.trans h3.bare⟩
end
theorem QN {ρ}:∀{H} {n} {b'},(Hp.cR ρ H).lookup n=some b'→∃m b,H.lookup m=some b∧ρ m=n∧b'=b.on (C.cR ρ)
 |[],n,b',h=>by simp[Hp.cR]at h
 | (m0,b0)::H,n,b',h=>by
  simp only[Hp.cR,cu,gW]at h;split at h
  · rename_i heq;simp at heq;cases h;exact⟨m0,b0,by simp,heq.symm,rfl⟩
  · rename_i heq;obtain⟨m,b,h1,h2,h3⟩:=QN (H:=H) h;refine⟨m,b,?_,h2,h3⟩;rw[gW];have:(m==m0)=false:=by
     rw[beq_eq_false_iff_ne];rintro rfl;simp[h2]at heq
    rw[this];exact h1
theorem VU {ρ}:∀{H} {m} {b},H.lookup m=some b→(Hp.cR ρ H).lookup (ρ m)≠none
 |[],m,b,h=>by simp at h
 | (m0,b0)::H,m,b,h=>by
  simp only[Hp.cR,cu,gW];split
  · simp
  · rename_i heq;rw[gW]at h;split at h
    · rename_i he;simp at he;subst he;simp at heq
    · exact VU h
def rW (st:av) (ι:List Nat) (L:List Nat):C→C→Prop
 | .dead,_=>True
 | .p q,c=>c= .p q∨∃rows,q= .sl rows∧st.view c=some rows∧∀n∈c.names,n∈L
 |c',c=>c=c'.cR (fun m=> (ι[m]?).getD 0)∧∀m∈c'.names,m<ι.length
def yO (st:av) (ι:List Nat) (L:List Nat):V1→V1→Prop
 | .c c',.c c=>rW st ι L c' c
 | .agg cs',.agg cs=>cs.length=cs'.length∧∀(i:Nat) (c':C),cs'[i]? =some c'→∃c,cs[i]? =some c∧rW st ι L c' c
 |_,_=>False
def yr (st:av) (ι:List Nat) (L:List Nat):dI→dI→Prop
 | .box cs',.box cs=>cs.length=cs'.length∧∀(i:Nat) (c':C),cs'[i]? =some c'→∃c,cs[i]? =some c∧rW st ι L c' c
 | .row e' bF,.row e rows=>e'=e∧bF=rows
 | .map es',.map es=>es'=es
 |_,_=>False
def o9 (ι:List Nat) (d:Nat) (m:Nat):Nat:=if m<ι.length then(ι[m]?).getD 0 else d+(m-ι.length)
structure AF (P:bB) (st:av) (d:Nat) (f:FuncId) (xs:List V1) (v:V) (ef:g_) (rd:List Nat):Prop where
 ex:∃(cargs:List V1) (H:List dI) (r:V) (H':Hp) (ι L:List Nat),eJ P f cargs H r H'∧ι.length=H.length∧ι.Nodup∧
  xs.length=cargs.length∧(∀(i:Nat) (x':V1),cargs[i]? =some x'→∃x,xs[i]? =some x∧yO st ι L x' x)∧
  (∀(i:Nat) (b':dI),H[i]? =some b'→∃n b,ι[i]? =some n∧st.heap.lookup n=some b∧yr st ι L b' b)∧
  (∀n∈ι,n∉st.ar∧n∉L)∧(∀n∈L,n∉st.ar)∧
  (∀n∈r.names,n<ι.length+8)∧(∀n b,H'.lookup n=some b→n<ι.length+8∧∀m∈b.names,m<ι.length+8)∧
  (∀n∈r.names,n<ι.length→H'.lookup n≠none)∧(∀n b,H'.lookup n=some b→∀m∈b.names,m<ι.length→H'.lookup m≠none)∧
  ((∀n∈L,n∈ef.ar)∨(r.bare=true∧∀n b,H'.lookup n=some b→b.bare=true))∧
  (∀(i n:Nat),ι[i]? =some n→(n∈ef.ar ↔ H'.lookup i=none))∧(∀n∈ef.ar,n∈ι∨n∈L)∧
  (∀n∈ef.ar,n<d)∧v=r.on (C.cR (o9 ι d))∧ef.cj=Hp.cR (o9 ι d) H'∧rd=ι++L
theorem Xp {st:av} {c} {rows} (h:st.view c=some rows):∃ns,st.sink c=some (.sl rows,ns)∧∀n∈ns,n∈c.names:=by
 cases c with
 |p q=>
  cases q with
  |sc=>cases h
  |sl=>cases h;exact⟨_,rfl,by simp⟩
 |nil=>cases h;exact⟨_,rfl,by simp⟩
 |own n=>
  simp only[av.view]at h;split at h
  · simp_all[av.sink,C.names]
  · cases h
 |sub n lo len=>
  simp only[av.view]at h;split at h
  · simp_all[av.sink,C.names]
  · cases h
 |_=>cases h
def kp (E:Env) (ι:List Nat):Nat→Option Nm:=fun m=>match ι[m]? with|some n=>E.N n|none=>none
def pn (M:eS) (E:Env) (ι L:List Nat):eS:=fun g=>M g∨∃n x,E.N n=some x∧x.g=some g∧n∉ι∧n∉L
section
variable {X:Fx} {E:Env} {st:av} {a:Act} {w:a7} {ι L:List Nat}
theorem mU {m} {x} (h:kp E ι m=some x):∃n,ι[m]? =some n∧E.N n=some x:=by
 unfold kp at h;split at h
 · exact⟨_,by assumption,h⟩
 · cases h
theorem X1 {M} {g} (h:bad (pn M E ι L) ⟨kp E ι,[]⟩ g):bad M E g:=by
 rcases h with(h| ⟨n,x,h1,h2,_⟩)| ⟨m,x,h1,h2⟩
 · exact .inl h
 · exact .inr ⟨n,x,h1,h2⟩
 · obtain⟨n,h3,h4⟩:=mU h1;exact .inr ⟨n,x,h4,h2⟩
theorem J9 (h:Rel X E st a w) (hι:∀n∈ι,n∉st.ar∧n∉L) (hL:∀n∈L,n∉st.ar) {c' c} {v} (hf:rW st ι L c' c) (hc:RC X.M E w c v):RC (pn X.M E ι L) ⟨kp E ι,[]⟩ w c' v:=by
 have hst:h_ (bad X.M E) (bad (pn X.M E ι L) ⟨kp E ι,[]⟩) w w:=fun g o u h1 h2=> ⟨h1,fun h=>h2 (X1 h)⟩
 have nm:∀m (Q:Nm→Prop),m<ι.length→bO E ((ι[m]?).getD 0) Q→bO ⟨kp E ι,[]⟩ m Q:=by
  intro m Q hm hq;obtain⟨x,h1,h2⟩:=bO.get hq (by rw[h.ar];simp_all);exact .inr ⟨x,by simp_all[kp],h2⟩
 cases c' with
 |dead=>trivial
 |p q=>
  rcases hf with rfl| ⟨rows,rfl,hv,hn⟩
  · exact RP.trans hc hst
  · obtain⟨ns,h1,h2⟩:=Xp hv;obtain⟨_,_,h3⟩:=h.sink hc (fun n cQ=>hL n (hn n cQ)) h1;refine RP.trans (h3 ns (fun _ h=>h)) (fun g o u k1 k2=> ⟨k1,fun k3=>k2 ?_⟩);rcases k3 with(k3| ⟨n,x,k4,k5,k6,k7⟩)| ⟨m,x,k4,k5⟩
    · exact .inl k3
    · refine .inr ⟨n,x,?_,k5⟩;simp only[Env.drop];rw[aC fun gQ=>k7 (hn n (h2 n gQ))];exact k4
    · obtain⟨n,k6,k7⟩:=mU k4;refine .inr ⟨n,x,?_,k5⟩;simp only[Env.drop];rw[aC fun gQ=> (hι n (dn k6)).2 (hn n (h2 n gQ))];exact k7
 |nil=>obtain⟨rfl,_⟩:=hf;exact hc
 |own n=>obtain⟨rfl,hn⟩:=hf;exact nm n _ (hn n (by simp[C.names])) hc
 |sub n lo len=>obtain⟨rfl,hn⟩:=hf;exact nm n _ (hn n (by simp[C.names])) hc
 |ptr n off=>obtain⟨rfl,hn⟩:=hf;exact nm n _ (hn n (by simp[C.names])) hc
 |cE n i j=>obtain⟨rfl,hn⟩:=hf;exact nm n _ (hn n (by simp[C.names])) hc
 |mp n=>obtain⟨rfl,hn⟩:=hf;exact nm n _ (hn n (by simp[C.names])) hc
 |ref cells=>
  obtain⟨rfl,_⟩:=hf;obtain⟨g,o,h1,h2⟩:=hc;refine⟨g,o,h1,fun j p hj=> ?_⟩;obtain⟨u,h3,h4,h5⟩:=h2 j p hj;exact⟨u,h3,(hst _ _ _ h3 h4).2,h5.trans hst⟩
 |fn f cN=>
  obtain⟨rfl,hn⟩:=hf;obtain⟨us,h1,h2,h3⟩:=hc;refine⟨us,h1,by simpa using h2,fun i n hi=> ?_⟩;obtain⟨u,h4,h5⟩:=h3 i _ (by rw[bV,hi];rfl);exact⟨u,h4,nm n _ (hn n (by exact dn hi)) h5⟩
theorem aka (h:Rel X E st a w) (hι:∀n∈ι,n∉st.ar∧n∉L) (hL:∀n∈L,n∉st.ar) {x' x} {v} (hf:yO st ι L x' x) (hc:db X.M E w x v):db (pn X.M E ι L) ⟨kp E ι,[]⟩ w x' v:=by
 cases x' with
 |c c'=>
  cases x with
  |c c=>exact J9 h hι hL hf hc
  |agg=>exact hf.elim
 | agg cs'=>
  cases x with
  |c=>exact hf.elim
  |agg cs=>
   obtain⟨us,h1,h2,h3⟩:=hc;refine⟨us,h1,by rw[h2,hf.1],fun i c' hi=> ?_⟩;obtain⟨c,h4,h5⟩:=hf.2 i c' hi;obtain⟨u,h6,h7,h8⟩:=h3 i c h4;exact⟨u,h6,J9 h hι hL h5 h7,h8⟩
theorem acD (h:Rel X E st a w) (hι:∀n∈ι,n∉st.ar∧n∉L) (hL:∀n∈L,n∉st.ar) {i n} {b' b} (hi:ι[i]? =some n) (hl:st.heap.lookup n=some b) (hf:yr st ι L b' b):
  RB X.P (pn X.M E ι L) ⟨kp E ι,[]⟩ w i b':=by
 have hst:h_ (bad X.M E) (bad (pn X.M E ι L) ⟨kp E ι,[]⟩) w w:=fun g o u h1 h2=> ⟨h1,fun h=>h2 (X1 h)⟩
 have hb:=h.row (hι n (dn hi)).1 hl;have hN:∀x,E.N n=some x→(⟨kp E ι,[]⟩:Env).N i=some x:=fun x hx=>by simp_all[kp]
 cases b' with
 | box cs'=>
  cases b with
  |box cs=>
   obtain⟨x,g,cur,e,h1,h0,h2,h3,h4⟩:=hb;refine⟨x,g,cur,e,hN x h1,h0,h2,by rw[h3,hf.1],fun j c' hj=> ?_⟩;obtain⟨c,k1,k2⟩:=hf.2 j c' hj;obtain⟨u,k3,k4,k5⟩:=h4 j c k1;exact⟨u,k3,J9 h hι hL k2 k4,k5⟩
  |_=>exact hf.elim
 | row e' bF=>
  cases b with
  |row e rows=>
   obtain⟨rfl,rfl⟩:=hf;obtain⟨x,cur,fz,h1,bX,h2,h3,h4,h5,h6,h11,h7,h8,h10,h9⟩:=hb;exact⟨x,cur,fz,hN x h1,bX,h2,h3,h4,h5,h6,h11,h7,h8,h10,fun i r j p hi hj=>let⟨u,k1,k2⟩:=h9 i r j p hi hj; ⟨u,k1,k2.trans hst⟩⟩
  |_=>exact hf.elim
 | map es'=>
  cases b with
  |map es=>
   cases hf;obtain⟨x,g,en,clock,h1,h0,h2,h3⟩:=hb;exact⟨x,g,en,clock,hN x h1,h0,h2,h3.trans hst⟩
  |_=>exact hf.elim
end
end
end
end Go.Proofs.YtndegphojkiblaaGreatDoor
