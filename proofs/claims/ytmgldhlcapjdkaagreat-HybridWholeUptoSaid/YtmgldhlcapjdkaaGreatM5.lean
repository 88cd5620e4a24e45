/- Part of a proof of a law of this seat: the machine of plain values, its simulation, and the contracts of the functions that the law reaches. Conditions: none beyond the given row. -/
import Derived.Test.YtmgldhlcapjdkaaGreatM4
import Derived.Test.YtmgldhlcapjdkaaGreatRows
import Derived.WalkKit
import Derived.ProofKit
import Derived.OpenShut
import Derived.JoinedCond
import Derived.ChangeBears
open Int renaming reduceLT → q4, reduceLE → q5, reduceBEq → q6, reduceBNe → q7, reduceEq → q8
open Nat renaming reduceAdd → q9, reduceLeDiff → j3, reduceLT → j4, reduceEqDiff → j5
set_option linter.unusedSimpArgs false
set_option linter.unusedVariables false
set_option linter.unnecessarySimpa false
set_option maxHeartbeats 4000000
section
namespace Go.Proofs.YtmgldhlcapjdkaaGreat.Fx
open Go.Rmp Go.Proofs.YtmgldhlcapjdkaaGreat.Ir
set_option maxRecDepth 10000
abbrev rdy (n:Nat) (R0:Regs) (ps:List Nat) (asg body:C):B:=.loop .ready Option.none n R0 ps asg body
abbrev bsy (n:Nat) (R0:Regs) (ps:List Nat) (asg body:C):B:=.loop .busy Option.none n R0 ps asg body
theorem back43 {n:Nat} {R0:Regs} {ps:List Nat} {asg body:C} (k:SK) (got:List Ver) (c b:Nat) (H:Heap) (I:Nat→Heap→Prop) (hps:ps.length=2) (hl:got.length<4611686018427387903) (h0:I got.length H) (hb:H[b]?=some (rdy n R0 ps asg body))
  (hkeep:∀ i H',I i H'→H'[c]?=some (.cells [.sl k (encVs got)]))
  (hstep:∀ i v H',got[i]?=some v→I (i+1) H'→H'[b]?=some (rdy n R0 ps asg body)→wpC env asg (setps R0 ps [.int .i64 (i:Int),.agg (encV v)]) H' (fun o H1=>∃ R1,o=.ex .normal R1∧H1[b]?=some (rdy n R0 ps asg body) ∧
   wpC env body R1 (H1.set b (bsy n R0 ps asg body)) (fun o H2=>∃ R2,o=.ex .normal R2∧H2[b]?=some (bsy n R0 ps asg body)∧I i (H2.set b (rdy n R0 ps asg body))))) :
  W env (.call 124 [.yld b,.ptr c 0]) H (fun _ H'=>I 0 H'∧H'[b]?=some (rdy n R0 ps asg body)):=by
 refine W.fnI rfl rfl rfl ?_
 have hc:=hkeep _ _ h0
 have w0:IntKind.i64.wrap ((got.length:Int)-1)=(got.length:Int)-1:=wrap64 (by omega)
 simp -implicitDefEqProofs only [ir124,op,ef,cl,sq,reduceIte,q4,q5,q6,q7,q8,q9,j3,j4,j5,S1,hc,encVs_len,w0]
 refine W.loopI (fun (x:Nat) R H'=>At H' (fun H'=>I x H'∧H'[b]?=some (rdy n R0 ps asg body))∧R 0=.yld b∧R 1=.ptr c 0∧R 3=.int .i64 ((x:Int)-1)∧x≤got.length) (fun x=>x) got.length ⟨.i ⟨h0,hb⟩,rfl,rfl,rfl,Nat.le_refl _⟩ ?_
 rintro x R H1 ⟨⟨hI,hb1⟩,g0,g1,g3,hx⟩
 cases x with
 | zero =>
  have e:(((0:Nat):Int)-1)=-1:=by decide
  have e2:decide ((0:Int)≤-1)=false:=by decide
  rw [e] at g3
  simp -implicitDefEqProofs only [op,ef,cl,sq,reduceIte,q4,q5,q6,q7,q8,q9,j3,j4,j5,S1,g3,e2]
  exact ⟨hI,hb1⟩
 | succ i =>
  obtain ⟨v,hv⟩:=getV (l:=got) (i:=i) (by omega)
  have e:(((i+1:Nat):Int)-1)=(i:Int):=by omega
  have e2:decide ((0:Int)≤(i:Int))=true:=by simp
  have w1:IntKind.i64.wrap ((i:Int)-1)=(i:Int)-1:=wrap64 (by omega)
  rw [e] at g3
  have hc1:=hkeep _ _ hI
  simp -implicitDefEqProofs only [op,ef,cl,sq,reduceIte,q4,q5,q6,q7,q8,q9,j3,j4,j5,S1,g0,g1,g3,e2,hc1,iadV hv,encV]
  refine b_yld (b:=b) (n:=n) (R0:=R0) (ps:=ps) (asg:=asg) (body:=body) ?_ hb1 (by rw [hps];rfl) ?_
  ·simp -implicitDefEqProofs only [op,ef,cl,sq,reduceIte,q4,q5,q6,q7,q8,q9,j3,j4,j5,S1]
  simp -implicitDefEqProofs only [op,ef,cl,sq,reduceIte,q4,q5,q6,q7,q8,q9,j3,j4,j5,S1]
  refine wpC_mono _ _ _ (fun o H2=>?_) (hstep i v H1 hv hI hb1)
  rintro ⟨R1,rfl,hr,hw⟩
  refine ⟨R1,rfl,hr,wpC_mono _ _ _ (fun o H3=>?_) hw⟩
  rintro ⟨R2,rfl,hr2,hI2⟩
  have hb3:=glt hr2
  refine ⟨R2,rfl,hr2,?_⟩
  simp -implicitDefEqProofs only [op,ef,cl,sq,reduceIte,q4,q5,q6,q7,q8,q9,j3,j4,j5,S1,g0,g1,g3,w1]
  exact ⟨i,by omega,.i ⟨hI2,by simp [hb3]⟩,rfl,by omega⟩
def KOk (k:SK) (l:List ByteArray):Prop:=k=.nil→l=[]
theorem allS (l:List ByteArray):(encS l).all (fun c=>c.length==1)=true:=all_map (n:=1) (fun _=>rfl) l
theorem encS_er (l:List ByteArray):(encS l).map (fun c=>c.map T.erase)=encS l:=by simp [encS,T.erase]
theorem clone33 (k:SK) (l:List ByteArray) (H:Heap) (hk:KOk k l) (hl:l.length<1099511627776):W env (.call 82 [.sl k (encS l)]) H (fun o H'=>Ext H H'∧∃ k',KOk k' l∧o=.val (.sl k' (encS l))):=by
 refine W.fnI rfl rfl rfl ?_
 have app:l≠[]→∃ k' H',appT H 16 .full [] (encS l)=some (.sl k' (encS l),H')∧Ext H H'∧k'≠.nil:=fun hne=>by
  obtain ⟨k',H',ha,hap,hst⟩:=app_ok (n0:=H.length) (H:=H) (bytes:=16) (k:=.full) [] (encS l) (.inr (.inl rfl)) (Nat.le_refl _) (by simpa [encS] using hne) (roomT (by simp -implicitDefEqProofs only [encS_len,List.length_nil];omega))
  rw [List.nil_append,encS_er] at ha
  refine ⟨k',H',ha,hst.ext H (Nat.le_refl _) Ext.rfl',fun h=>?_⟩
  subst h
  unfold appT at ha
  cases hl:encS l with
  | nil=>simp [encS] at hl;exact hne hl
  | cons c cs=>rw [hl] at ha;simp only at ha;split at ha <;> simp at ha
 cases k with
 | nil =>
  have:=hk rfl;subst this
  simp -implicitDefEqProofs only [ir82,op,ef,cl,sq,reduceIte,q4,q5,q6,q7,q8,q9,j3,j4,j5,S1,encS,eqRef,nilOf]
  exact ⟨Ext.rfl',.nil,fun _=>rfl,rfl⟩
 | arg =>
  cases l with
  | nil =>
   simp -implicitDefEqProofs only [ir82,op,ef,cl,sq,reduceIte,q4,q5,q6,q7,q8,q9,j3,j4,j5,S1,encS,eqRef,nilOf,Option.map_none]
   refine fun t=>?_
   cases t
   ·simp -implicitDefEqProofs only [op,ef,cl,sq,reduceIte,q4,q5,q6,q7,q8,q9,j3,j4,j5,S1,appT]
    exact ⟨Ext.rfl',.full,fun h=>rfl,rfl⟩
   ·simp -implicitDefEqProofs only [op,ef,cl,sq,reduceIte,q4,q5,q6,q7,q8,q9,j3,j4,j5,S1]
    exact ⟨Ext.rfl',.nil,fun _=>rfl,rfl⟩
  | cons a l =>
   obtain ⟨k',H',ha,hx,hk'⟩:=app (by simp)
   have h1:=allS (a :: l)
   simp -implicitDefEqProofs only [encS,List.map_cons] at ha h1
   simp -implicitDefEqProofs only [ir82,op,ef,cl,sq,reduceIte,q4,q5,q6,q7,q8,q9,j3,j4,j5,S1,encS,eqRef,nilOf,ha,h1]
   exact ⟨hx,k',fun h=>absurd h hk',rfl⟩
 | full =>
  cases l with
  | nil =>
   simp -implicitDefEqProofs only [ir82,op,ef,cl,sq,reduceIte,q4,q5,q6,q7,q8,q9,j3,j4,j5,S1,encS,eqRef,nilOf,appT]
   exact ⟨Ext.rfl',.full,fun h=>rfl,rfl⟩
  | cons a l =>
   obtain ⟨k',H',ha,hx,hk'⟩:=app (by simp)
   have h1:=allS (a :: l)
   simp -implicitDefEqProofs only [encS,List.map_cons] at ha h1
   simp -implicitDefEqProofs only [ir82,op,ef,cl,sq,reduceIte,q4,q5,q6,q7,q8,q9,j3,j4,j5,S1,encS,eqRef,nilOf,ha,h1]
   exact ⟨hx,k',fun h=>absurd h hk',rfl⟩
 | own t e =>
  cases l with
  | nil =>
   simp -implicitDefEqProofs only [ir82,op,ef,cl,sq,reduceIte,q4,q5,q6,q7,q8,q9,j3,j4,j5,S1,encS,eqRef,nilOf,appT]
   exact ⟨Ext.rfl',.full,fun h=>rfl,rfl⟩
  | cons a l =>
   obtain ⟨k',H',ha,hx,hk'⟩:=app (by simp)
   have h1:=allS (a :: l)
   simp -implicitDefEqProofs only [encS,List.map_cons] at ha h1
   simp -implicitDefEqProofs only [ir82,op,ef,cl,sq,reduceIte,q4,q5,q6,q7,q8,q9,j3,j4,j5,S1,encS,eqRef,nilOf,ha,h1]
   exact ⟨hx,k',fun h=>absurd h hk',rfl⟩
end Go.Proofs.YtmgldhlcapjdkaaGreat.Fx
end

section
namespace Go.Proofs.YtmgldhlcapjdkaaGreat.Fx
open Go.Rmp Go.Proofs.YtmgldhlcapjdkaaGreat.Ir
set_option maxRecDepth 10000
def setK (v:Ver) (k:SK):Ver:={ v with kk:=k }
end Go.Proofs.YtmgldhlcapjdkaaGreat.Fx
end

section
namespace Go.Proofs.YtmgldhlcapjdkaaGreat.Fx
open Go.Rmp Go.Proofs.YtmgldhlcapjdkaaGreat.Ir
set_option maxRecDepth 10000
def kW (w:ByteArray × Nat):T:=.agg [.str w.1,.int .u64 w.2]
theorem kWok:KeyOk (.st [.str,.int]) kW:=⟨fun _=>rfl,fun a b=>by
 simp -implicitDefEqProofs only [kW,keyEq,eqCells,eqSc,strEq_eq,if_true,deq,Option.some.injEq]
 rw [Bool.eq_iff_iff];simp [Prod.ext_iff]⟩
theorem lkpB_W (z:T) (ok:Bool) (H:Heap) (es:List ((ByteArray × Nat) × T)) (s:ByteArray) (n:Nat):lkpB (.st [.str,.int]) z ok H (some (.map (encK kW es))) (.agg [.str s,.int .u64 n])=some (lkpT (mlook es (s,n)) z ok,H):=lkpB_K kWok z ok H es (s,n)
theorem upmB_W (H:Heap) (b:Nat) (es:List ((ByteArray × Nat) × T)) (s:ByteArray) (n:Nat) (v:T):upmB (.st [.str,.int]) H b (some (.map (encK kW es))) (.agg [.str s,.int .u64 n]) v=some (undefT,H.set b (.map (encK kW (mput es (s,n) v)))):=upmB_K kWok H b es (s,n) v
def wOf (v:Ver):ByteArray × Nat:=(v.key,v.id)
def Fetched (got:List Ver) (i:Nat) (es:List ((ByteArray × Nat) × T)):Prop:=∀ w,match mlook es w with
 | .none=>∀ (p:Nat) v,i≤p→got[p]?=some v→wOf v≠w
 | some t=>∃ p v,i≤p∧got[p]?=some v∧wOf v=w∧t=.int .i64 (p:Int)∧∀ (q:Nat) u,i≤q→q<p→got[q]?=some u→wOf u≠w
theorem fetched_end (got:List Ver):Fetched got got.length []:=fun w=>by
 simp -implicitDefEqProofs only [mlook_nil]
 intro p v hp hv
 rw [List.getElem?_eq_none hp] at hv;cases hv
theorem fetched_put {got:List Ver} {i:Nat} {es:List ((ByteArray × Nat) × T)} {v:Ver} (hv:got[i]?=some v) (h:Fetched got (i+1) es):Fetched got i (mput es (v.key,v.id) (.int .i64 (i:Int))):=fun w=>by
 rw [mlook_put]
 by_cases e:w=(v.key,v.id)
 ·subst e;simp -implicitDefEqProofs only [if_true]
  exact ⟨i,v,Nat.le_refl _,hv,rfl,rfl,fun q u h1 h2=>by omega⟩
 ·simp -implicitDefEqProofs only [e,if_false]
  have:=h w
  have hne:wOf v≠w:=fun h=>e h.symm
  cases hl:mlook es w with
  | none =>
   rw [hl] at this
   intro p u hp hu
   by_cases hpi:p=i
   ·subst hpi;rw [hv] at hu;cases hu;exact hne
   ·exact this p u (by omega) hu
  | some t =>
   rw [hl] at this
   obtain ⟨p,u,h1,h2,h3,h4,h5⟩:=this
   refine ⟨p,u,by omega,h2,h3,h4,fun q x hq hqp hx=>?_⟩
   by_cases hpi:q=i
   ·subst hpi;rw [hv] at hx;cases hx;exact hne
   ·exact h5 q x (by omega) hqp hx
def gotOf (got:List Ver) (k:ByteArray) (n:Nat):Option Ver:=got.find? fun v=>decide (v.key=k)&&decide (v.id=n)
theorem fetched_no {got:List Ver} {es:List ((ByteArray × Nat) × T)} (h:Fetched got 0 es) {k:ByteArray} {n:Nat} (hl:mlook es (k,n)=Option.none):gotOf got k n=Option.none:=by
 have:=h (k,n);rw [hl] at this
 unfold gotOf;rw [List.find?_eq_none]
 intro v hv
 obtain ⟨p,hp,e⟩:=List.getElem_of_mem hv
 have:=this p v (Nat.zero_le _) (by rw [List.getElem?_eq_getElem hp,e])
 simp -implicitDefEqProofs only [wOf,ne_eq,Prod.mk.injEq] at this
 simpa using this
theorem fetched_yes {got:List Ver} {es:List ((ByteArray × Nat) × T)} (h:Fetched got 0 es) {k:ByteArray} {n:Nat} {t:T} (hl:mlook es (k,n)=some t):∃ (p:Nat) (v:Ver),got[p]?=some v∧t=.int .i64 (p:Int)∧gotOf got k n=some v:=by
 have:=h (k,n);rw [hl] at this
 obtain ⟨p,v,_,h2,h3,h4,h5⟩:=this
 refine ⟨p,v,h2,h4,?_⟩
 unfold gotOf;rw [List.find?_eq_some_iff_getElem]
 have hp:=(List.getElem?_eq_some_iff.1 h2).1
 simp -implicitDefEqProofs only [wOf,Prod.mk.injEq] at h3
 refine ⟨by simp [h3],p,hp,(List.getElem?_eq_some_iff.1 h2).2,fun j hj=>?_⟩
 have:=h5 j got[j] (Nat.zero_le _) hj (List.getElem?_eq_getElem _)
 simp -implicitDefEqProofs only [wOf,ne_eq,Prod.mk.injEq] at this
 simp -implicitDefEqProofs only [Bool.not_eq_true',Bool.and_eq_false_iff,decide_eq_false_iff_not]
 exact Classical.not_and_iff_not_or_not.1 this
def mendOne (l got:List Ver) (u:Ver):Option Ver:=if u.id<gr l u.key then gotOf got u.key (gr l u.key) else some u
def mendO (l got:List Ver) (u:Ver):Option Ver:=(mendOne l got u).map (setK · .arg)
def mends (f:Ver→Option Ver):List Ver→Option (List Ver)
 | []=>some []
 | u :: m=>match f u,mends f m with
  | some a,some b=>some (a :: b)
  | _,_=>.none
theorem mends_snoc (f:Ver→Option Ver) {m:List Ver} {u v:Ver} {out:List Ver} (h:mends f m=some out) (hv:f u=some v):mends f (m++[u])=some (out++[v]):=by
 induction m generalizing out with
 | nil=>simp -implicitDefEqProofs only [mends,Option.some.injEq] at h;subst h;simp [mends,hv]
 | cons x m ih =>
  simp -implicitDefEqProofs only [mends,List.cons_append] at h ⊢
  cases h1:f x with
  | none=>rw [h1] at h;simp at h
  | some a =>
   cases h2:mends f m with
   | none=>rw [h1,h2] at h;simp at h
   | some b=>rw [h1,h2] at h;simp -implicitDefEqProofs only [Option.some.injEq] at h;subst h;rw [ih h2];rfl
theorem mends_no (f:Ver→Option Ver) {m:List Ver} {u:Ver} (hu:u∈m) (hv:f u=.none):mends f m=.none:=by
 induction m with
 | nil=>cases hu
 | cons x m ih =>
  simp -implicitDefEqProofs only [mends]
  rcases List.mem_cons.1 hu with rfl | h
  ·rw [hv]
  ·rw [ih h];cases f x <;> rfl
theorem mends_len (f:Ver→Option Ver):∀ {m out:List Ver},mends f m=some out→out.length=m.length
 | [],out,h=>by simp -implicitDefEqProofs only [mends,Option.some.injEq] at h;subst h;rfl
 | x :: m,out,h=>by
  simp -implicitDefEqProofs only [mends] at h
  cases h1:f x with
  | none=>rw [h1] at h;simp at h
  | some a =>
   cases h2:mends f m with
   | none=>rw [h1,h2] at h;simp at h
   | some b=>rw [h1,h2] at h;simp -implicitDefEqProofs only [Option.some.injEq] at h;subst h;simp [mends_len f h2]
open Classical in
noncomputable def mendL (l got:List Ver):List Ver:=if Formed l then (mends (mendO l got) l).getD [] else []
open Classical in
noncomputable def mendE (l got:List Ver):Nat:=if Formed l then if (mends (mendO l got) l).isSome then 0 else 110 else 1
def MendQ (l got:List Ver) (H:Heap):Out→Heap→Prop:=fun o H'=>Ext H H'∧∃ k,o=.val (.tup [.sl k (encVs (mendL l got)),.int .i64 (mendE l got)])
def NilOk (l:List Ver):Prop:=∀ v∈l,KOk v.kk v.keys∧v.keys.length<1099511627776
theorem allV (l:List Ver):(encVs l).all (fun c=>c.length==4)=true:=all_map (n:=4) (fun _=>rfl) l
theorem vapp (l:List Ver) (v:Ver):encVs l++[[T.str v.key,T.int .u64 v.id,T.str v.val,T.sl .arg (encS v.keys)]]=encVs (l++[setK v .arg]):=by simp [encVs,encV,setK]
theorem back32 (k:SK) (got:List Ver) (H:Heap):W env (.call 81 [.sl k (encVs got)]) H (fun o H'=>H'=H++[.cells [.sl k (encVs got)]]∧o=.val (.fn 124 [.ptr H.length 0])):=by
 refine W.fnI rfl rfl rfl ?_
 simp -implicitDefEqProofs only [ir81,op,ef,cl,sq,reduceIte,q4,q5,q6,q7,q8,q9,j3,j4,j5,S1,capsT]
end Go.Proofs.YtmgldhlcapjdkaaGreat.Fx
end

section
namespace Go.Proofs.YtmgldhlcapjdkaaGreat.Fx
open Go.Rmp Go.Proofs.YtmgldhlcapjdkaaGreat.Ir
set_option maxRecDepth 10000
theorem mend16 (k kg:SK) (l got:List Ver) (H:Heap) (hs:Small l) (hn:NilOk l) (hng:NilOk got) (hgl:got.length<4611686018427387903):W env (.call 35 [.sl k (encVs l),.sl kg (encVs got)]) H (MendQ l got H):=by
 refine W.fnrI rfl rfl ?_
 simp -implicitDefEqProofs only [ir35,op,ef,cl,sq,reduceIte,q4,q5,q6,q7,q8,q9,j3,j4,j5,S1]
 refine callB_of _ _ _ _ _ _ _ _ (formed12 k l _ hs) ?_
 rintro u H1 ⟨hu,hx1⟩
 cases hu
 have hx1:Ext H H1:=hx1
 by_cases hf:¬ Formed l
 ·simp -implicitDefEqProofs only [op,ef,cl,sq,reduceIte,q4,q5,q6,q7,q8,q9,j3,j4,j5,S1,formed_f hf]
  refine endR_0 rfl ?_
  simp -implicitDefEqProofs only [op,ef,cl,sq,reduceIte,q4,q5,q6,q7,q8,q9,j3,j4,j5,S1]
  exact ⟨hx1,.nil,by simp [mendL,mendE,hf,encVs]⟩
 have hf:=Classical.not_not.1 hf
 have hln:=hf.2.1
 have q0:(H1++[B.map []]).length=H1.length+1:=by simp
 have q1:H1.length<H1.length+1:=by omega
 simp -implicitDefEqProofs only [op,ef,cl,sq,reduceIte,q4,q5,q6,q7,q8,q9,j3,j4,j5,S1,S2,formed_t hf,q0]
 refine callB_of _ _ _ _ _ _ _ _ (back32 kg got _) ?_
 rintro u H2 ⟨rfl,hu⟩
 cases hu
 simp -implicitDefEqProofs only [op,ef,cl,sq,reduceIte,q4,q5,q6,q7,q8,q9,j3,j4,j5,S1]
 have q2:(H1++[B.map []]++[B.cells [T.map H1.length]]).length=H1.length+2:=by simp
 rw [q2]
 generalize hH2:H1++[B.map []]++[B.cells [T.map H1.length]]++[B.cells [T.sl kg (encVs got)]]=H2
 generalize hR:upd _ 20 _=R0
 refine W.rangeI (f:=124) (cs:=[.ptr (H1.length+2) 0]) (by rw [← hR];simp -implicitDefEqProofs only [op,ef,cl,sq,reduceIte,q4,q5,q6,q7,q8,q9,j3,j4,j5,S1]) ?_
 have a1:H2.length=H1.length+3:=by rw [← hH2];simp
 have a2:H2[H1.length]?=some (.map (encK kW [])):=by rw [← hH2];simp [encK]
 have a3:H2[H1.length+1]?=some (.cells [.map H1.length]):=by rw [← hH2];simp
 have a4:H2[H1.length+2]?=some (.cells [.sl kg (encVs got)]):=by rw [← hH2];simp
 have a5:Ext H H2:=by rw [← hH2];exact ((hx1.app _).app _).app _
 have r0:R0 0=.sl k (encVs l):=by rw [← hR];simp -implicitDefEqProofs only [op,ef,cl,sq,reduceIte,q4,q5,q6,q7,q8,q9,j3,j4,j5,S1]
 have r1:R0 1=.sl kg (encVs got):=by rw [← hR];simp -implicitDefEqProofs only [op,ef,cl,sq,reduceIte,q4,q5,q6,q7,q8,q9,j3,j4,j5,S1]
 have r6:R0 6=.ptr (H1.length+1) 0:=by rw [← hR];simp -implicitDefEqProofs only [op,ef,cl,sq,reduceIte,q4,q5,q6,q7,q8,q9,j3,j4,j5,S1]
 have r71:R0 71=.tup []:=by rw [← hR];rfl
 rw [r71,push0,a1]
 have hl1:=hx1.len
 have e1:H1.length+3+1=H1.length+4:=rfl
 rw [e1]
 generalize hnn:H1.length=f at *
 have n01:¬ f=f+1:=by omega
 have n02:¬ f=f+2:=by omega
 have n03:¬ f=f+3:=by omega
 have n04:¬ f+4=f:=by omega
 have n14:¬ f+4=f+1:=by omega
 have n24:¬ f+4=f+2:=by omega
 have n34:¬ f+4=f+3:=by omega
 have n40:¬ f=f+4:=by omega
 have hbl:∀ x y:B,(H2++[y,x])[f+4]?=some x:=fun x y=>by
  rw [List.getElem?_append_right (by omega),a1]
  have:f+4-(f+3)=1:=by omega
  rw [this];rfl
 refine W.use (back43 (hb:=hbl _ _) kg got (f+2) (f+4) _ (fun i H'=>At H' fun H'=>Ext H H'∧H'[f+1]?=some (.cells [.map f])∧H'[f+2]?=some (.cells [.sl kg (encVs got)])∧H'[f+3]?=some .dfr∧∃ es,H'[f]?=some (.map (encK kW es))∧Fetched got i es) rfl hgl ?_ ?_ ?_) ?_
 ·refine .i ⟨a5.app _,?_,?_,g_tail a1.symm,[],?_,fetched_end got⟩
  ·rw [g_app (by omega)];exact a3
  ·rw [g_app (by omega)];exact a4
  ·rw [g_app (by omega)];exact a2
 ·rintro i H' ⟨_,_,h,_⟩;exact h
 ·rintro i v H3 hv ⟨h1,h2,h3,h4,es,h5,h6⟩ hb
  have m4:=glt hb
  have m0:=glt h5
  have m1:=glt h2
  have m3:=glt h3
  have t4:¬ f+4=H3.length:=by omega
  simp -implicitDefEqProofs only [op,ef,cl,sq,reduceIte,q4,q5,q6,q7,q8,q9,j3,j4,j5,S1,S2,setps,r6,encV]
  refine ⟨_,rfl,?_,?_⟩
  ·rw [g_app m4];exact hb
  simp -implicitDefEqProofs only [op,ef,cl,sq,reduceIte,q4,q5,q6,q7,q8,q9,j3,j4,j5,S1,S2,r6,m4,m0,m1,t4,n04,n14,n24,n34,n40,h2,h5,upmB_W]
  have lq:H.length≤f:=by omega
  refine ⟨_,rfl,.i ⟨(((h1.set (by omega) _).set lq _).set (by omega) _).app _,?_,?_,?_,_,?_,fetched_put hv h6⟩⟩
  ·simp -implicitDefEqProofs only [S2,m4,m0,m1,n04,n14,n01,h2]
  ·simp -implicitDefEqProofs only [S2,m4,m0,m3,n04,n24,n02,h3]
  ·have:=glt h4;simp -implicitDefEqProofs only [S2,m4,m0,this,n04,n34,n03,h4]
  ·simp -implicitDefEqProofs only [S2,m4,m0,n04]
 rintro o H3 ⟨⟨h1,h2,h3,h4,es,h5,h6⟩,hb⟩
 refine ⟨hb,?_⟩
 have m4:=glt hb
 simp -implicitDefEqProofs only [op,ef,cl,sq,reduceIte,q4,q5,q6,q7,q8,q9,j3,j4,j5,S1,r0,r1,r6]
 refine callB_of _ _ _ _ _ _ _ _ (greatest25 k l _ hs hf) ?_
 rintro u H4 ⟨hx4,b,hu,hbo,hbH⟩
 cases hu
 have p0:H4[f]?=some (.map (encK kW es)):=hx4.get (by simp -implicitDefEqProofs only [S2,n04,h5])
 have p1:H4[f+1]?=some (.cells [.map f]):=hx4.get (by simp -implicitDefEqProofs only [S2,n14,h2])
 have p3:H4[f+3]?=some .dfr:=hx4.get (by simp -implicitDefEqProofs only [S2,n34,h4])
 have px:Ext H H4:=(h1.set (by omega) _).trans hx4
 simp -implicitDefEqProofs only [op,ef,cl,sq,reduceIte,q4,q5,q6,q7,q8,q9,j3,j4,j5,S1,r0,r1,r6]
 refine W.loopI (fun (i:Nat) R H'=>At H' (fun H'=>∃ kw out,mends (mendO l got) (l.take i)=some out∧R 9=.sl kw (encVs out)∧Ext H H'∧H'[b]?=some (.cells (msC eU (grs l)))∧H'[f]?=some (.map (encK kW es))∧H'[f+1]?=some (.cells [.map f])∧H'[f+3]?=some .dfr∧Apd H.length H' kw)∧R 0=.sl k (encVs l)∧R 1=.sl kg (encVs got)∧R 6=.ptr (f+1) 0∧R 31=.msl b 0 l.length 1∧R 32=.int .i64 l.length∧R 33=.int .i64 i∧R 71=.tup [.ptr (f+3) 0]∧i≤l.length) (fun i=>l.length-i) 0 ?_ ?_
 ·refine ⟨.i ⟨.nil,[],rfl,rfl,px,hbo,p0,p1,p3,apd_nil _ _⟩,?_⟩
  simp -implicitDefEqProofs only [op,ef,cl,sq,reduceIte,q4,q5,q6,q7,q8,q9,j3,j4,j5,S1,r0,r1,r6]
  exact ⟨rfl,Nat.zero_le _⟩
 rintro i R H5 ⟨⟨kw,out,hout,g9,hx5,c0,c1,c2,c3,hap⟩,g0,g1,g6,g31,g32,g33,g71,hi⟩
 by_cases hlt:i<l.length
 ·obtain ⟨v,hv⟩:=getV hlt
  have hvm:=List.mem_of_getElem? hv
  have wsi:=wrap_succ (show i<9223372036854775807 by omega)
  have hg:=getG rfl hv
  have lb:=glt c0
  have lf:=glt c1
  have lf1:=glt c2
  have lf3:=glt c3
  by_cases hlg:v.id<gr l v.key
  ·have nf5:¬ f+1=H5.length:=by omega
   cases ho:mlook es (v.key,gr l v.key) with
   | none =>
    simp -implicitDefEqProofs only [op,ef,cl,sq,reduceIte,q4,q5,q6,q7,q8,q9,j3,j4,j5,S1,S2,g0,g1,g6,g31,g32,g33,hlt,natOf_nat,iad_m,c0,c1,c2,lb,lf,lf1,msU_get hg,iadV hv,encV,hlg,lkpB_W,ho]
    refine endR_r (b:=f+3) (by simp -implicitDefEqProofs only [op,ef,cl,sq,reduceIte,q4,q5,q6,q7,q8,q9,j3,j4,j5,S1,g71]) (by simp -implicitDefEqProofs only [S2,lf3,c3]) ?_
    simp -implicitDefEqProofs only [op,ef,cl,sq,reduceIte,q4,q5,q6,q7,q8,q9,j3,j4,j5,S1]
    refine ⟨(hx5.app _).set (by omega) _,.nil,?_⟩
    have hno:=mends_no (mendO l got) hvm (by simp [mendO,mendOne,hlg,fetched_no h6 ho])
    simp [mendL,mendE,hf,hno,encVs]
   | some t =>
   obtain ⟨p,w,hpw,rfl,hgo⟩:=fetched_yes h6 ho
   have hwm:=List.mem_of_getElem? hpw
   simp -implicitDefEqProofs only [op,ef,cl,sq,reduceIte,q4,q5,q6,q7,q8,q9,j3,j4,j5,S1,S2,g0,g1,g6,g31,g32,g33,hlt,natOf_nat,iad_m,c0,c1,c2,lb,lf,lf1,msU_get hg,iadV hv,iadV hpw,encV,hlg,lkpB_W,ho]
   refine callB_of _ _ _ _ _ _ _ _ (clone33 w.kk w.keys _ (hng w hwm).1 (hng w hwm).2) ?_
   rintro u H6 ⟨hx6,k',hk',hu⟩
   cases hu
   have s0:H6[H5.length]?=some (.cells (encV w)):=hx6.get (by simp -implicitDefEqProofs only [S2,encV])
   have sc0:H6[b]?=some (.cells (msC eU (grs l))):=hx6.get (by simp -implicitDefEqProofs only [S2,lb,c0])
   have sc1:H6[f]?=some (.map (encK kW es)):=hx6.get (by simp -implicitDefEqProofs only [S2,lf,c1])
   have sc2:H6[f+1]?=some (.cells [.map f]):=hx6.get (by simp -implicitDefEqProofs only [S2,lf1,c2])
   have sc3:H6[f+3]?=some .dfr:=hx6.get (by simp -implicitDefEqProofs only [S2,lf3,c3])
   have sx:Ext H H6:=(hx5.app _).trans hx6
   have sap:Apd H.length H6 kw:=(hap.ext ⟨_,rfl⟩).ext hx6
   have sl:=glt s0
   have lo:out.length≤1024:=by rw [mends_len _ hout];simp;omega
   obtain ⟨k2,H7,ha,hap',hst⟩:=app_ok (bytes:=64) (H:=H6.set H5.length (.cells [T.str w.key,T.int .u64 w.id,T.str w.val,T.sl k' (encS w.keys)])) (encVs out) [[T.str w.key,T.int .u64 w.id,T.str w.val,T.sl .arg (encS w.keys)]] (sap.set s0 (by simp) _) (by simp;exact sx.len) (by simp) (roomT (by simp -implicitDefEqProofs only [encVs_len,List.length_cons,List.length_nil];omega))
   simp -implicitDefEqProofs only [op,ef,cl,sq,reduceIte,q4,q5,q6,q7,q8,q9,j3,j4,j5,S1,vapp] at ha
   simp -implicitDefEqProofs only [encV] at s0
   simp -implicitDefEqProofs only [op,ef,cl,sq,reduceIte,q4,q5,q6,q7,q8,q9,j3,j4,j5,S1,S2,g9,s0,sl,allV,ha,g33,wsi]
   have n1:¬ H5.length=b:=by omega
   have n2:¬ H5.length=f:=by omega
   have n3:¬ H5.length=f+1:=by omega
   have n4:¬ H5.length=f+3:=by omega
   have sap2:=sap.set s0 (by simp) (B.cells [T.str w.key,T.int .u64 w.id,T.str w.val,T.sl k' (encS w.keys)])
   refine ⟨i+1,by omega,.i ⟨k2,out++[setK w .arg],?_,by simp -implicitDefEqProofs only [op,ef,cl,sq,reduceIte,q4,q5,q6,q7,q8,q9,j3,j4,j5,S1],hst.ext H (Nat.le_refl _) (sx.set (by omega) _),hst.cells sap2 (by simp -implicitDefEqProofs only [S2,n1,sc0]) (by simp),hst.cells sap2 (by simp -implicitDefEqProofs only [S2,n2,sc1]) (by simp),hst.cells sap2 (by simp -implicitDefEqProofs only [S2,n3,sc2]) (by simp),hst.cells sap2 (by simp -implicitDefEqProofs only [S2,n4,sc3]) (by simp),hap'⟩,?_⟩
   ·rw [take_snoc hv]
    exact mends_snoc _ hout (by simp [mendO,mendOne,hlg,hgo])
   ·simp -implicitDefEqProofs only [g0,g1,g6,g31,g32,g71,true_and];omega
  ·simp -implicitDefEqProofs only [op,ef,cl,sq,reduceIte,q4,q5,q6,q7,q8,q9,j3,j4,j5,S1,S2,g0,g1,g6,g31,g32,g33,hlt,natOf_nat,iad_m,c0,c1,c2,lb,lf,lf1,msU_get hg,iadV hv,encV,hlg]
   refine callB_of _ _ _ _ _ _ _ _ (clone33 v.kk v.keys _ (hn v hvm).1 (hn v hvm).2) ?_
   rintro u H6 ⟨hx6,k',hk',hu⟩
   cases hu
   have s0:H6[H5.length]?=some (.cells (encV v)):=hx6.get (by simp -implicitDefEqProofs only [S2,encV])
   have sc0:H6[b]?=some (.cells (msC eU (grs l))):=hx6.get (by simp -implicitDefEqProofs only [S2,lb,c0])
   have sc1:H6[f]?=some (.map (encK kW es)):=hx6.get (by simp -implicitDefEqProofs only [S2,lf,c1])
   have sc2:H6[f+1]?=some (.cells [.map f]):=hx6.get (by simp -implicitDefEqProofs only [S2,lf1,c2])
   have sc3:H6[f+3]?=some .dfr:=hx6.get (by simp -implicitDefEqProofs only [S2,lf3,c3])
   have sx:Ext H H6:=(hx5.app _).trans hx6
   have sap:Apd H.length H6 kw:=(hap.ext ⟨_,rfl⟩).ext hx6
   have sl:=glt s0
   have lo:out.length≤1024:=by rw [mends_len _ hout];simp;omega
   obtain ⟨k2,H7,ha,hap',hst⟩:=app_ok (bytes:=64) (H:=H6.set H5.length (.cells [T.str v.key,T.int .u64 v.id,T.str v.val,T.sl k' (encS v.keys)])) (encVs out) [[T.str v.key,T.int .u64 v.id,T.str v.val,T.sl .arg (encS v.keys)]] (sap.set s0 (by simp) _) (by simp;exact sx.len) (by simp) (roomT (by simp -implicitDefEqProofs only [encVs_len,List.length_cons,List.length_nil];omega))
   simp -implicitDefEqProofs only [op,ef,cl,sq,reduceIte,q4,q5,q6,q7,q8,q9,j3,j4,j5,S1,vapp] at ha
   simp -implicitDefEqProofs only [encV] at s0
   simp -implicitDefEqProofs only [op,ef,cl,sq,reduceIte,q4,q5,q6,q7,q8,q9,j3,j4,j5,S1,S2,g9,s0,sl,allV,ha,g33,wsi]
   have n1:¬ H5.length=b:=by omega
   have n2:¬ H5.length=f:=by omega
   have n3:¬ H5.length=f+1:=by omega
   have n4:¬ H5.length=f+3:=by omega
   have sap2:=sap.set s0 (by simp) (B.cells [T.str v.key,T.int .u64 v.id,T.str v.val,T.sl k' (encS v.keys)])
   refine ⟨i+1,by omega,.i ⟨k2,out++[setK v .arg],?_,by simp -implicitDefEqProofs only [op,ef,cl,sq,reduceIte,q4,q5,q6,q7,q8,q9,j3,j4,j5,S1],hst.ext H (Nat.le_refl _) (sx.set (by omega) _),hst.cells sap2 (by simp -implicitDefEqProofs only [S2,n1,sc0]) (by simp),hst.cells sap2 (by simp -implicitDefEqProofs only [S2,n2,sc1]) (by simp),hst.cells sap2 (by simp -implicitDefEqProofs only [S2,n3,sc2]) (by simp),hst.cells sap2 (by simp -implicitDefEqProofs only [S2,n4,sc3]) (by simp),hap'⟩,?_⟩
   ·rw [take_snoc hv]
    exact mends_snoc _ hout (by simp [mendO,mendOne,hlg])
   ·simp -implicitDefEqProofs only [g0,g1,g6,g31,g32,g71,true_and];omega
 ·have hil:i=l.length:=by omega
  subst hil
  rw [List.take_length] at hout
  simp -implicitDefEqProofs only [op,ef,cl,sq,reduceIte,q4,q5,q6,q7,q8,q9,j3,j4,j5,S1,g9,g32,g33,hlt]
  refine endR_r (b:=f+3) (by simp -implicitDefEqProofs only [op,ef,cl,sq,reduceIte,q4,q5,q6,q7,q8,q9,j3,j4,j5,S1,g71]) c3 ?_
  simp -implicitDefEqProofs only [op,ef,cl,sq,reduceIte,q4,q5,q6,q7,q8,q9,j3,j4,j5,S1,g9]
  refine ⟨hx5.set (by omega) _,kw,?_⟩
  simp [mendL,mendE,hf,hout]
end Go.Proofs.YtmgldhlcapjdkaaGreat.Fx
end

section
namespace Go.Proofs.YtmgldhlcapjdkaaGreat.St
open Go.Rmp Go.Proofs.YtmgldhlcapjdkaaGreat.Ir
set_option maxRecDepth 10000
def abOf (az:List Ab) (k:ByteArray):Ab:=match az[ofN k az.length]? with
 | some a=>a
 | none=>Ab.emp
def verOf (az:List Ab) (k:ByteArray):Fx.Ver:=⟨k,(abOf az k).last k,((abOf az k).latest k).value,.arg,((abOf az k).latest k).keys⟩
section
variable {H0 H:Heap} {q m:Nat} {k1 k2:SK} {xs:List Pt} {pu:List Nat}
theorem xs_at (l1:1≤xs.length) (k:ByteArray):∃ x,xs[ofN k xs.length]?=some x∧abOf (xs.map Pt.a) k=x.a∧x∈xs:=by
 obtain ⟨x,hx⟩:=getP (l:=xs) (i:=ofN k xs.length) (ofN_lt k (by omega))
 exact ⟨x,hx,by unfold abOf;rw [List.length_map,List.getElem?_map,hx];rfl,List.mem_of_getElem? hx⟩
theorem latest31 (kk:SK) (ks:List ByteArray) (h:Wd H0 H q k1 k2 xs pu m) (l1:1≤xs.length) (l2:xs.length≤64) (hks:∀ k∈ks,k.size<9223372036854775807) (hl:ks.length≤8000000) :
  W env (.call 31 [.ptr q 0,.sl kk (ks.map eS)]) H (fun o H'=>Ext H H'∧∃ k',o=.val (.sl k' (Fx.encVs (ks.map (verOf (xs.map Pt.a)))))):=by
 have gs:=wd_s (k1:=k1) (k2:=k2) (xs:=xs) (pu:=pu)
 refine W.fnI rfl rfl rfl ?_
 simp -implicitDefEqProofs only [ir31,op,ef,cl,sq,reduceIte,q4,q5,q6,q7,q8,q9,j3,j4,j5,S1]
 refine W.loopV [(0,_),(1,_)] (fun (i:Nat) R H'=>At H' (fun H'=>∃ k',R 5=.sl k' (Fx.encVs ((ks.take i).map (verOf (xs.map Pt.a))))∧Ext H H'∧Apd H.length H' k')∧R 6=.int .i64 i∧i≤ks.length) (fun i=>ks.length-i) 0 ⟨.i ⟨.nil,rfl,Ext.rfl',apd_nil _ _⟩,rfl,Nat.zero_le _⟩ ?_
 rintro i R H1 ⟨⟨k',g5,hx1,hap⟩,g6,hi⟩
 have h1:=h.goE hx1
 by_cases hlt:i<ks.length
 rotate_left
 ·have hie:i=ks.length:=by omega
  subst hie
  rw [List.take_length] at g5
  simp -implicitDefEqProofs only [mkR_nil,mkR_cons,op,ef,cl,sq,reduceIte,q4,q5,q6,q7,q8,q9,j3,j4,j5,S1,List.length_map,g5,g6,hlt]
  exact ⟨hx1,k',rfl⟩
 obtain ⟨k,hk⟩:=getP hlt
 have ik:=iadX (e:=eS) (n:=1) (fun _=>rfl) (by decide) (k:=kk) hk
 have wsi:=wrap_succ (show i<9223372036854775807 by omega)
 obtain ⟨x,hx,hxa,hxm⟩:=xs_at l1 k
 have ix1:=iadX (e:=eP1) (n:=1) (fun _=>rfl) (by decide) (k:=k1) hx
 simp -implicitDefEqProofs only [mkR_nil,mkR_cons,op,ef,cl,sq,reduceIte,q4,q5,q6,q7,q8,q9,j3,j4,j5,S1,List.length_map,g6,hlt,natOf_nat,ik,eS,ldc_iptr,h1.hq,gs]
 refine callB_of _ _ _ _ _ _ _ _ (of25 k xs.length _ (hks k (List.mem_of_getElem? hk))) ?_
 rintro u H1 ⟨hu,rfl⟩
 have hokp:okP (xs.length:Int)=true:=by simp [okP];omega
 have hu:u=.tup [.int .i64 (ofN k xs.length:Nat),.int .i64 0]:=by
  cases hu
  simp -implicitDefEqProofs only [ofV,hokp,if_true,Int.toNat_natCast]
 subst hu
 simp -implicitDefEqProofs only [op,ef,cl,sq,reduceIte,q4,q5,q6,q7,q8,q9,j3,j4,j5,S1,g5,g6,natOf_nat,ik,ix1,eS,eP1,ldc_iptr,h1.hq,gs]
 refine callB_of _ _ _ _ _ _ _ _ (latestA k (h1.ok x hxm).at_) ?_
 rintro u H2 ⟨hx2,kv,hkv,hu⟩
 cases hu
 have hx2:Ext H1 H2:=hx2
 have h2:=h1.goE hx2
 have hall:=Fx.allV ((ks.take i).map (verOf (xs.map Pt.a)))
 obtain ⟨k2',H3,ha,hap',hst'⟩:=app_ok (bytes:=64) (Fx.encVs ((ks.take i).map (verOf (xs.map Pt.a)))) [eVer k (x.a.last k) (x.a.latest k).value kv (x.a.latest k).keys] (hap.ext hx2) (Nat.le_trans hx1.len hx2.len) (by simp) (roomT (by simp -implicitDefEqProofs only [Fx.encVs_len,List.length_map,List.length_take,List.length_cons,List.length_nil];omega))
 have ha2:appT H2 64 k' (Fx.encVs ((ks.take i).map (verOf (xs.map Pt.a)))) [[.str k,.int .u64 (x.a.last k),.str (x.a.latest k).value,.sl .arg ((x.a.latest k).keys.map eS)]]=some (.sl k2' (Fx.encVs ((ks.take (i+1)).map (verOf (xs.map Pt.a)))),H3):=by
  rw [take_snoc hk,List.map_append]
  unfold Fx.encVs
  rw [List.map_append,List.map_cons,List.map_nil,List.map_cons,List.map_nil]
  unfold verOf
  rw [hxa]
  exact ha
 simp -implicitDefEqProofs only [eVer,op,ef,cl,sq,reduceIte,q4,q5,q6,q7,q8,q9,j3,j4,j5,S1,h1.hq,h2.hq,gs,g5,g6,natOf_nat,ik,ix1,eP1,ldc_iptr,hall,ha2,wsi]
 exact ⟨i+1,by omega,.i ⟨k2',rfl,hst'.ext H (Nat.le_refl _) (hx1.trans hx2),hap'⟩,rfl,hlt⟩
def verAt (az:List Ab) (k:ByteArray) (n:Nat):Fx.Ver:=match (abOf az k).v (k,n) with
 | some v=>⟨k,n,v.value,.arg,v.keys⟩
 | none=>⟨k,0,⟨#[]⟩,.arg,[]⟩
theorem byID34 (k:ByteArray) (n:Nat) (h:Wd H0 H q k1 k2 xs pu m) (l1:1≤xs.length) (l2:xs.length≤64) (hk:k.size<9223372036854775807) :
  W env (.call 34 [.ptr q 0,.str k,.int .u64 n]) H (fun o H'=>Ext H H'∧∃ kv,KOk kv (verAt (xs.map Pt.a) k n).keys∧o=.val (.agg (Fx.encV (Fx.setK (verAt (xs.map Pt.a) k n) kv)))):=by
 have gs:=wd_s (k1:=k1) (k2:=k2) (xs:=xs) (pu:=pu)
 obtain ⟨x,hx,hxa,hxm⟩:=xs_at l1 k
 have ix1:=iadX (e:=eP1) (n:=1) (fun _=>rfl) (by decide) (k:=k1) hx
 have lq:=h.lq
 obtain ⟨H1,hH1⟩:∃ H1,H1=H++[B.cells [T.str ⟨#[]⟩,.int .u64 0,.str ⟨#[]⟩,.sl .nil []]]:=⟨_,rfl⟩
 have hx1:Ext H H1:=⟨_,hH1⟩
 have c1:H1[H.length]?=some (.cells [T.str ⟨#[]⟩,.int .u64 0,.str ⟨#[]⟩,.sl .nil []]):=by rw [hH1];exact g_tail rfl
 have h1:=h.goE hx1
 refine W.fnI rfl rfl rfl ?_
 simp -implicitDefEqProofs only [ir34,op,ef,cl,sq,reduceIte,q4,q5,q6,q7,q8,q9,j3,j4,j5,S1,S2]
 rw [← hH1]
 simp -implicitDefEqProofs only [op,ef,cl,sq,reduceIte,q4,q5,q6,q7,q8,q9,j3,j4,j5,S1,h1.hq,gs,List.length_map]
 refine callB_of _ _ _ _ _ _ _ _ (of25 k xs.length _ hk) ?_
 rintro u H1 ⟨hu,rfl⟩
 have hokp:okP (xs.length:Int)=true:=by simp [okP];omega
 have hu:u=.tup [.int .i64 (ofN k xs.length:Nat),.int .i64 0]:=by
  cases hu
  simp -implicitDefEqProofs only [ofV,hokp,if_true,Int.toNat_natCast]
 subst hu
 simp -implicitDefEqProofs only [op,ef,cl,sq,reduceIte,q4,q5,q6,q7,q8,q9,j3,j4,j5,S1,natOf_nat,ix1,eP1,ldc_iptr,h1.hq,gs]
 refine callB_of _ _ _ _ _ _ _ _ (byIDA k n (h1.ok x hxm).at_) ?_
 rintro u H2 ⟨hx2,hu⟩
 have hx2:Ext H1 H2:=hx2
 have c2:=hx2.get c1
 have l2':=glt c2
 have hne:¬ H2.length=H.length:=by omega
 rcases hu with ⟨hno,hu⟩ | ⟨v,kv,hv,hkv,hu⟩
 ·cases hu
  have e:verAt (xs.map Pt.a) k n=⟨k,0,⟨#[]⟩,.arg,[]⟩:=by unfold verAt;rw [hxa,hno]
  rw [e]
  simp -implicitDefEqProofs only [op,ef,cl,sq,reduceIte,q4,q5,q6,q7,q8,q9,j3,j4,j5,S1,S2,c2,l2',hne]
  exact ⟨((hx1.trans hx2).set (Nat.le_refl _) _).app _,.nil,fun _=>rfl,rfl⟩
 ·cases hu
  have e:verAt (xs.map Pt.a) k n=⟨k,n,v.value,.arg,v.keys⟩:=by unfold verAt;rw [hxa,hv]
  rw [e]
  simp -implicitDefEqProofs only [eVer,op,ef,cl,sq,reduceIte,q4,q5,q6,q7,q8,q9,j3,j4,j5,S1,S2,c2,l2',hne]
  exact ⟨((hx1.trans hx2).set (Nat.le_refl _) _).app _,kv,hkv,rfl⟩
end
theorem and4095 (x:Int):∃ n:Nat,n≤4095∧IntKind.i64.wrap ((BitVec.ofInt IntKind.i64.bits x &&& BitVec.ofInt IntKind.i64.bits 4095).toNat:Nat)=(n:Int):=by
 have e:(BitVec.ofInt IntKind.i64.bits x &&& BitVec.ofInt IntKind.i64.bits 4095).toNat=(BitVec.ofInt 64 x).toNat % 4096:=by
  show (BitVec.ofInt 64 x &&& BitVec.ofInt 64 4095).toNat=_
  rw [BitVec.toNat_and]
  exact Nat.and_two_pow_sub_one_eq_mod _ 12
 refine ⟨(BitVec.ofInt 64 x).toNat % 4096,by omega,?_⟩
 rw [e];exact wrap64 (by omega)
theorem andi15 (x:Int):∃ n:Nat,n≤15∧IntKind.i64.wrap ((BitVec.ofInt IntKind.i64.bits x &&& BitVec.ofInt IntKind.i64.bits 15).toNat:Nat)=(n:Int):=by
 have e:(BitVec.ofInt IntKind.i64.bits x &&& BitVec.ofInt IntKind.i64.bits 15).toNat=(BitVec.ofInt 64 x).toNat % 16:=by
  show (BitVec.ofInt 64 x &&& BitVec.ofInt 64 15).toNat=_
  rw [BitVec.toNat_and]
  exact Nat.and_two_pow_sub_one_eq_mod _ 4
 refine ⟨(BitVec.ofInt 64 x).toNat % 16,by omega,?_⟩
 rw [e];exact wrap64 (by omega)
theorem shaped32 (x y:Int) (H:Heap):W env (.call 32 [.int .i64 x,.int .i64 y]) H (fun o H'=>Ext H H'∧∃ b h:Nat,1≤b∧b≤65536∧1≤h∧h≤16∧o=.val (.agg [.int .i64 b,.int .i64 h])):=by
 obtain ⟨n,n1,n2⟩:=and4095 x
 obtain ⟨j,j1,j2⟩:=andi15 y
 have e1:IntKind.i64.wrap (1+(n:Int))=((1+n:Nat):Int):=by rw [wrap64 (by omega)];simp
 have e2:IntKind.i64.wrap (1+(j:Int))=((1+j:Nat):Int):=by rw [wrap64 (by omega)];simp
 refine W.fnI rfl rfl rfl ?_
 simp -implicitDefEqProofs only [ir32,op,ef,cl,sq,reduceIte,q4,q5,q6,q7,q8,q9,j3,j4,j5,S1,S2,n2,j2,e1,e2]
 exact ⟨Ext.rfl'.app _,1+n,1+j,by omega,by omega,by omega,by omega,rfl⟩
structure WInv (az:List Ab) (pu:List Nat):Prop where
 pb:∀ n∈pu,n<256
 pl:pu.length=16
 v:∀ (i:Nat) a,az[i]?=some a→∀ k id d,a.v (k,id)=some d→∃ n b,pu[n]?=some b∧b≠0∧id=nId n∧d.keys=namesL b∧k∈namesL b∧ofN k az.length=i
theorem upA_at {az:List Ab} {i j:Nat} {f:Ab→Ab} {a':Ab} (h:(upA az i f)[j]?=some a'):(∃ a,az[j]?=some a∧a'=f a∧j=i)∨az[j]?=some a':=by
 unfold upA at h
 split at h
 ·rename_i a ha
  rcases set_at h with ⟨rfl,rfl,_⟩ | ⟨_,h⟩
  ·exact .inl ⟨a,ha,rfl,rfl⟩
  ·exact .inr h
 ·exact .inr h
theorem drp_vv {a:Ab} {m0 m:Nm} {d:Vd} (h:(a.drp m0).v m=some d):a.v m=some d:=by
 unfold Ab.drp at h
 split at h
 ·split at h
  ·exact h
  ·simp -implicitDefEqProofs only [Ab.cut] at h
   split at h
   ·cases h
   ·exact h
 ·exact h
theorem WInv.up {az:List Ab} {pu:List Nat} (h:WInv az pu) {i:Nat} {f:Ab→Ab} (hf:∀ a,az[i]?=some a→∀ k id d,(f a).v (k,id)=some d→(∃ d0,a.v (k,id)=some d0∧d.keys=d0.keys)∨∃ n b,pu[n]?=some b∧b≠0∧id=nId n∧d.keys=namesL b∧k∈namesL b∧ofN k az.length=i):WInv (upA az i f) pu:=by
 refine ⟨h.pb,h.pl,fun j a' ha' k id d hd=>?_⟩
 rw [upA_len]
 rcases upA_at ha' with ⟨a,ha,rfl,rfl⟩ | ha
 ·rcases hf a ha k id d hd with ⟨d0,hd0,e⟩ | hh
  ·rw [e];exact h.v j a ha k id d0 hd0
  ·exact hh
 ·exact h.v j a' ha k id d hd
theorem WInv.putAll {o:OpW} {b:Nat} (hb:b≠0) {pu:List Nat} (hp:pu[opN o]?=some b):∀ (l:List ByteArray) (az:List Ab),(∀ k∈l,k∈namesL b)→WInv az pu→WInv (putAll o (namesL b) az l) pu
 | [],az,_,h=>h
 | k :: l,az,hl,h=>by
  refine WInv.putAll hb hp l _ (fun k hk=>hl k (List.mem_cons_of_mem _ hk)) ?_
  refine h.up fun a ha k' id d hd=>?_
  rcases put_vv hd with h1 | ⟨_,h2,h3,h4⟩
  ·exact .inl ⟨d,h1,rfl⟩
  ·simp -implicitDefEqProofs only [mlook_cons] at h4
   split at h4
   ·rename_i e
    have e:k'=k:=e
    subst e
    exact .inr ⟨opN o,b,hp,hb,h2,h3,hl _ (List.mem_cons_self),rfl⟩
   ·simp [mlook_nil] at h4
theorem pu_getD {pu:List Nat} (hpl:pu.length=16) (o:OpW):pu[opN o]?=some (pu.getD (opN o) 0):=by
 have hn:opN o<pu.length:=by rw [hpl];exact Nat.mod_lt _ (by decide)
 rw [List.getD_eq_getElem?_getD,List.getElem?_eq_getElem hn];rfl
theorem WInv.does {az:List Ab} {pu:List Nat} {o:OpW} (h:WInv az pu) (ho:o.keys<256):WInv (doesA (az,pu) o).1 (doesA (az,pu) o).2:=by
 have hg:=pu_getD h.pl o
 unfold doesA
 split
 ·split
  ·exact h
  ·rename_i hc
   have h0:pu.getD (opN o) 0=0:=Decidable.of_not_not fun hh=>hc (.inl hh)
   have hne:namesL o.keys≠[]:=fun e=>hc (.inr e)
   have hk0:=names_zero hne
   rw [h0] at hg
   have hlt:=(List.getElem?_eq_some_iff.1 hg).1
   refine WInv.putAll hk0 (by rw [List.getElem?_set_self hlt]) _ _ (fun k hk=>hk) ⟨fun n hn=>?_,by rw [List.length_set];exact h.pl,fun i a ha k id d hd=>?_⟩
   ·rcases List.mem_or_eq_of_mem_set hn with h1 | h1
    ·exact h.pb n h1
    ·omega
   ·obtain ⟨n,b,h1,h2,h3⟩:=h.v i a ha k id d hd
    refine ⟨n,b,?_,h2,h3⟩
    have:opN o≠n:=fun e=>by subst e;rw [hg] at h1;cases h1;exact h2 rfl
    rw [List.getElem?_set_ne this];exact h1
 ·split
  ·split
   ·exact h.up fun a ha k id d hd=>by
     obtain ⟨w,hw,e,_⟩:=com_vv hd
     exact .inl ⟨w,hw,e⟩
   ·exact h
  ·split
   ·split
    ·exact h.up fun a ha k id d hd=>.inl ⟨d,drp_vv hd,rfl⟩
    ·exact h
   ·exact h
theorem latest_ok {az:List Ab} {pu:List Nat} (h:WInv az pu) (hw:∀ a∈az,AbW a) (h1:1≤az.length) (k:ByteArray) :
  verOf az k=⟨k,0,⟨#[]⟩,.arg,[]⟩∨∃ n b val,pu[n]?=some b∧b≠0∧k∈namesL b∧verOf az k=⟨k,nId n,val,.arg,namesL b⟩∧∃ d,(abOf az k).v (k,nId n)=some d∧d.value=val∧d.keys=namesL b:=by
 obtain ⟨a,ha⟩:=getP (l:=az) (i:=ofN k az.length) (ofN_lt k (by omega))
 have e:abOf az k=a:=by unfold abOf;rw [ha]
 unfold verOf Ab.last Ab.latest
 rw [e]
 cases hl:a.l k with
 | none=>exact .inl rfl
 | some n0 =>
  right
  have hh:=(hw a (List.mem_of_getElem? ha)).L k n0 hl
  unfold Ab.has at hh
  obtain ⟨d,hd⟩:=Option.isSome_iff_exists.1 hh
  obtain ⟨n,b,p1,p2,p3,p4,p5,_⟩:=h.v _ a ha k n0 d hd
  subst p3
  refine ⟨n,b,d.value,p1,p2,p5,?_,d,hd,rfl,p4⟩
  simp -implicitDefEqProofs only [Option.getD_some,hd,vdOf,p4]
theorem nId_inj {n m:Nat} (h:nId n=nId m):n=m:=by unfold nId at h;omega
structure WSl (v:Fx.Ver) (s:Slm):Prop where
 key:s.key=v.key
 id:s.id=v.id
 val:s.val=v.val
 nf:v.id≠0→∀ t∈v.keys,hasF s t=true
 ok:slimOk s=true
 sb:SlmB s
theorem of_latest {az:List Ab} {pu:List Nat} (h:WInv az pu) (hw:∀ a∈az,AbW a) (h1:1≤az.length) (k:ByteArray) (hk:k.size≤1) {b j:Nat} (b1:1≤b) (b2:b≤65536) (j1:1≤j) (j2:j≤16) :
  ∃ s,ofS k (verOf az k).id (verOf az k).val (verOf az k).keys b j=(s,0)∧WSl (verOf az k) s∧((verOf az k).id=0→s=⟨k,0,⟨#[]⟩,[]⟩):=by
 have hsh:shOk (b:Int) (j:Int)=true:=by simp [shOk];omega
 rcases latest_ok h hw h1 k with e | ⟨n,bb,val,p1,p2,p3,e,_⟩
 ·rw [e]
  exact ⟨_,ofS_bot hsh,⟨rfl,rfl,rfl,fun h=>absurd rfl h,slim_bot k,⟨fun x hx=>by simp at hx,by simp,by show k.size<_;omega⟩⟩,fun _=>rfl⟩
 ·rw [e]
  have hpos:1≤(namesL bb).length:=List.length_pos_of_mem p3
  have hg:=names_good hpos
  have hofk:ofOk k (nId n) (namesL bb)=true:=by
   unfold ofOk
   rw [names_rises,memB_iff.2 p3,decide_eq_true (nId_ge n),decide_eq_true hpos,decide_eq_true hg.2.2];rfl
  refine ⟨_,ofS_mk hsh hofk,⟨rfl,rfl,rfl,fun _ t ht=>?_,mk_slim b1 b2 j1 j2 (nId_ge n) p3,mk_SlmB b2 (by omega)⟩,fun h0=>?_⟩
  ·rw [mk_hasF _ _ _ _ _ b1 b2 j2];exact keyP_has ht b j
  ·have:=nId_ge n
   have h0:nId n=0:=h0
   omega
theorem memB_fx (l:List ByteArray) (x:ByteArray):Fx.memB l x=memB l x:=by
 rw [Bool.eq_iff_iff,memB_iff]
 unfold Fx.memB
 simp
structure Sls (vs:List Fx.Ver) (ss:List Slm):Prop where
 len:ss.length=vs.length
 w:∀ (i:Nat) v s,vs[i]?=some v→ss[i]?=some s→WSl v s
 l1:1≤vs.length
 l2:vs.length≤1024
 nd:(vs.map Fx.Ver.key).Nodup
section
variable {vs:List Fx.Ver} {ss:List Slm}
theorem Sls.at (h:Sls vs ss) {i:Nat} {v:Fx.Ver} (hv:vs[i]?=some v):∃ s,ss[i]?=some s∧WSl v s:=by
 obtain ⟨s,hs⟩:=getP (l:=ss) (i:=i) (by rw [h.len];exact (List.getElem?_eq_some_iff.1 hv).1)
 exact ⟨s,hs,h.w i v s hv hs⟩
theorem Sls.at' (h:Sls vs ss) {i:Nat} {s:Slm} (hs:ss[i]?=some s):∃ v,vs[i]?=some v∧WSl v s:=by
 obtain ⟨v,hv⟩:=getP (l:=vs) (i:=i) (by rw [← h.len];exact (List.getElem?_eq_some_iff.1 hs).1)
 exact ⟨v,hv,h.w i v s hv hs⟩
theorem Sls.keys (h:Sls vs ss):ss.map Slm.key=vs.map Fx.Ver.key:=by
 refine List.ext_getElem? fun i=>?_
 rw [List.getElem?_map,List.getElem?_map]
 by_cases hi:i<vs.length
 ·obtain ⟨v,hv⟩:=getP hi
  obtain ⟨s,hs,hw⟩:=h.at hv
  rw [hv,hs];simp -implicitDefEqProofs only [Option.map_some,hw.key]
 ·rw [List.getElem?_eq_none (by rw [h.len];omega),List.getElem?_eq_none (by omega)];rfl
theorem Sls.formed (h:Sls vs ss):formed ss=true:=by
 unfold St.formed
 rw [decide_eq_true (by rw [h.len];exact h.l1),decide_eq_true (by rw [h.len];exact h.l2),h.keys,decide_eq_true h.nd]
 simp -implicitDefEqProofs only [Bool.true_and,Bool.and_true,List.all_eq_true]
 intro s hs
 obtain ⟨i,hi⟩:=List.mem_iff_getElem?.1 hs
 obtain ⟨v,_,hw⟩:=h.at' hi
 exact hw.ok
theorem Sls.sb (h:Sls vs ss):∀ s∈ss,SlmB s:=fun s hs=>by
 obtain ⟨i,hi⟩:=List.mem_iff_getElem?.1 hs
 obtain ⟨v,_,hw⟩:=h.at' hi
 exact hw.sb
theorem gr_is (l:List Fx.Ver) (key:ByteArray):Fx.gr l key=0∨∃ v∈l,memB v.keys key=true∧v.id=Fx.gr l key:=by
 rcases Fx.gr_is' l key 0 with h | ⟨v,hv,h1,h2⟩
 ·exact .inl h
 ·exact .inr ⟨v,hv,by rw [← memB_fx];exact h1,h2⟩
theorem Sls.gr_in (h:Sls vs ss) {i:Nat} {u:Fx.Ver} {y:Slm} (hu:vs[i]?=some u) (hy:ss[i]?=some y) (hlt:u.id<Fx.gr vs u.key):Fx.gr vs u.key∈idsOf ss y:=by
 have hw:=h.w i u y hu hy
 rcases gr_is vs u.key with h0 | ⟨v,hv,h1,h2⟩
 ·omega
 ·obtain ⟨j,hj⟩:=List.mem_iff_getElem?.1 hv
  obtain ⟨s,hs,hws⟩:=h.at hj
  unfold idsOf
  refine List.mem_map.2 ⟨s,List.mem_filter.2 ⟨List.mem_of_getElem? hs,?_⟩,by rw [hws.id,h2]⟩
  unfold mayH
  rw [hw.id,hws.id,hw.key,hws.nf (by omega) u.key (memB_iff.1 h1),decide_eq_true (by omega)];rfl
end
theorem or1 {x:Nat} (h:x<256) (m:Nat) (hm:m<256):IntKind.u8.wrap ((BitVec.ofInt IntKind.u8.bits (x:Int) ||| BitVec.ofInt IntKind.u8.bits (m:Int)).toNat:Nat)=((x ||| m:Nat):Int):=by
 have e:=or_n 8 x m h hm
 have e3:(BitVec.ofInt IntKind.u8.bits (x:Int) ||| BitVec.ofInt IntKind.u8.bits (m:Int)).toNat=x ||| m:=e
 rw [e3,wrap8 (Nat.or_lt_two_pow (n:=8) h hm)]
def zC (l:List Int):List T:=l.map fun z=>T.int .i64 z
theorem zC_get {l:List Int} {j:Nat} {z:Int} (h:l[j]?=some z):ldcB 1 (0+j*1) (some (.cells (zC l)))=some [.int .i64 z]:=by
 have hj:=(List.getElem?_eq_some_iff.1 h).1
 rw [ldcB_c,if_pos (by unfold zC;simp;omega),Nat.zero_add,Nat.mul_one]
 unfold zC
 rw [← List.map_drop,drop_cons h];rfl
theorem zC_get' {l:List Int} {j:Nat} {z:Int} (h:l[j]?=some z):ldcB 1 (j*1) (some (.cells (zC l)))=some [.int .i64 z]:=by
 have:=zC_get h;rwa [Nat.zero_add] at this
def WdA (H0 H:Heap) (q:Nat) (k1 k2:SK) (pu:List Nat) (xs:List Pt):Prop:=Wd H0 H q k1 k2 xs pu (8*nz pu)∧1≤xs.length∧xs.length≤8∧WInv (xs.map Pt.a) pu
theorem WdA.goE {H0 H H':Heap} {q:Nat} {k1 k2:SK} {pu:List Nat} {xs:List Pt} (h:WdA H0 H q k1 k2 pu xs) (hx:Ext H H'):WdA H0 H' q k1 k2 pu xs:=⟨h.1.goE hx,h.2⟩
theorem WdA.ab {H0 H:Heap} {q:Nat} {k1 k2:SK} {pu:List Nat} {xs:List Pt} (h:WdA H0 H q k1 k2 pu xs):∀ a∈xs.map Pt.a,AbW a:=fun a ha=>by
 obtain ⟨x,hx,rfl⟩:=List.mem_map.1 ha
 exact (h.1.ok x hx).rf.w
theorem WdA.does {H0 H H':Heap} {q:Nat} {k1 k2:SK} {pu:List Nat} {xs:List Pt} {o:OpW} {u:Out} (h:WdA H0 H q k1 k2 pu xs) (ho:OpWOk o) (hd:DoesQ H0 q k1 k2 xs pu o H u H'):∃ xs' pu',u=.val (.tup [])∧WdA H0 H' q k1 k2 pu' xs'∧(xs'.map Pt.a,pu')=doesA (xs.map Pt.a,pu) o∧Frm (WU q xs) H H'∧Gro (WU q xs) (WU q xs') H H':=by
 obtain ⟨hu,xs',pu',hw,hl,hm,hf,hg⟩:=hd
 refine ⟨xs',pu',hu,⟨hw,by rw [hl];exact h.2.1,by rw [hl];exact h.2.2.1,?_⟩,hm,hf,hg⟩
 have:=h.2.2.2.does (o:=o) ho.2.1
 rw [← hm] at this
 exact this
theorem WInv.zero {az:List Ab} (h:∀ a∈az,a=Ab.emp):WInv az (List.replicate 16 0) :=
 ⟨fun n hn=>by rw [List.eq_of_mem_replicate hn];decide,by simp,fun i a ha k id d hd=>by rw [h a (List.mem_of_getElem? ha)] at hd;cases hd⟩
theorem emp_map {xs:List Pt} (h:∀ x∈xs,x.a=Ab.emp):∀ a∈xs.map Pt.a,a=Ab.emp:=fun a ha=>by
 obtain ⟨x,hx,rfl⟩:=List.mem_map.1 ha;exact h x hx
end Go.Proofs.YtmgldhlcapjdkaaGreat.St
end

section

end

section
namespace Go.Proofs.YtmgldhlcapjdkaaGreat.St
open Go.Rmp Go.Proofs.YtmgldhlcapjdkaaGreat.Ir
set_option maxRecDepth 10000
theorem abOf_at {az:List Ab} (h1:1≤az.length) (k:ByteArray):az[ofN k az.length]?=some (abOf az k):=by
 obtain ⟨a,ha⟩:=getP (l:=az) (i:=ofN k az.length) (ofN_lt k (by omega))
 unfold abOf;rw [ha]
theorem abOf_up {az:List Ab} (h1:1≤az.length) (k:ByteArray) (i:Nat) (f:Ab→Ab):abOf (upA az i f) k=if ofN k az.length=i then f (abOf az k) else abOf az k:=by
 have ha:=abOf_at h1 k
 have hlt:=(List.getElem?_eq_some_iff.1 ha).1
 generalize abOf az k=a at *
 unfold abOf
 rw [upA_len]
 unfold upA
 by_cases e:ofN k az.length=i
 ·subst e
  rw [if_pos rfl,ha]
  simp -implicitDefEqProofs only [List.getElem?_set_self hlt]
 ·rw [if_neg e]
  cases hi:az[i]? with
  | none=>simp -implicitDefEqProofs only [ha]
  | some b=>simp -implicitDefEqProofs only [List.getElem?_set_ne (fun h=>e h.symm),ha]
structure WPlay (az:List Ab) (pu:List Nat) (az':List Ab) (pu':List Nat):Prop where
 len:az'.length=az.length
 pu:∀ (n b:Nat),pu[n]?=some b→b≠0→pu'[n]?=some b
 v:∀ k id d,(abOf az k).v (k,id)=some d→∃ d',(abOf az' k).v (k,id)=some d'∧d'.value=d.value∧d'.keys=d.keys
theorem WPlay.rfl' {az:List Ab} {pu:List Nat}:WPlay az pu az pu:=⟨rfl,fun _ _ h _=>h,fun _ _ d h=>⟨d,h,rfl,rfl⟩⟩
theorem WPlay.trans {az az' az'':List Ab} {pu pu' pu'':List Nat} (h:WPlay az pu az' pu') (h':WPlay az' pu' az'' pu''):WPlay az pu az'' pu'' :=
 ⟨h'.len.trans h.len,fun n b a c=>h'.pu n b (h.pu n b a c) c,fun k id d hd=>by
  obtain ⟨d',h1,h2,h3⟩:=h.v k id d hd
  obtain ⟨d'',h4,h5,h6⟩:=h'.v k id d' h1
  exact ⟨d'',h4,h5.trans h2,h6.trans h3⟩⟩
def Prep (az:List Ab) (pu:List Nat):Prop:=∀ (n b:Nat),pu[n]?=some b→b≠0→∀ k∈namesL b,(abOf az k).has (k,nId n)=true
theorem Prep.play {az az':List Ab} {pu pu':List Nat} (h:WPlay az pu az' pu') {k:ByteArray} {id:Nat} (hh:(abOf az k).has (k,id)=true):(abOf az' k).has (k,id)=true:=by
 unfold Ab.has at hh ⊢
 obtain ⟨d,hd⟩:=Option.isSome_iff_exists.1 hh
 obtain ⟨d',h1,_⟩:=h.v k id d hd
 rw [h1];rfl
theorem play_up {az:List Ab} {pu:List Nat} (h1:1≤az.length) (i:Nat) {f:Ab→Ab} (hf:∀ a m d,a.v m=some d→∃ d',(f a).v m=some d'∧d'.value=d.value∧d'.keys=d.keys):WPlay az pu (upA az i f) pu :=
 ⟨upA_len _ _ _,fun _ _ h _=>h,fun k id d hd=>by
  rw [abOf_up h1]
  split
  ·exact hf _ _ _ hd
  ·exact ⟨d,hd,rfl,rfl⟩⟩
theorem put_keep (a:Ab) (n:Nat) (l:List (ByteArray × ByteArray)) (ks:List ByteArray) (now:Int):∀ m d,a.v m=some d→∃ d',(a.put n l ks now).v m=some d'∧d'.value=d.value∧d'.keys=d.keys:=fun m d hd=>⟨d,by rw [put_v,hd];rfl,rfl,rfl⟩
theorem com_keep (a:Ab) (n:Nat) (now:Int):∀ m d,a.v m=some d→∃ d',(a.com n now).v m=some d'∧d'.value=d.value∧d'.keys=d.keys:=fun m d hd=>by
 simp -implicitDefEqProofs only [Ab.com,hd,Option.map_some]
 split <;> exact ⟨_,rfl,rfl,rfl⟩
theorem play_puts (o:OpW) (ks:List ByteArray) (pu:List Nat):∀ (l:List ByteArray) (az:List Ab),1≤az.length→WPlay az pu (putAll o ks az l) pu
 | [],az,_=>WPlay.rfl'
 | k :: l,az,h1=>(play_up h1 _ fun a=>put_keep a _ _ _ _).trans (play_puts o ks pu l _ (by show 1≤(putK o ks az k).length;unfold putK;rw [upA_len];exact h1))
theorem puts_has (o:OpW) (ks:List ByteArray):∀ (l:List ByteArray) (az:List Ab),1≤az.length→∀ k∈l,(abOf (putAll o ks az l) k).has (k,nId (opN o))=true
 | [],az,_,k,hk=>by cases hk
 | k0 :: l,az,h1,k,hk=>by
  have h1':1≤(putK o ks az k0).length:=by unfold putK;rw [upA_len];exact h1
  by_cases hkl:k∈l
  ·exact puts_has o ks l _ h1' k hkl
  ·have e:k=k0:=by
    rcases List.mem_cons.1 hk with e | h
    ·exact e
    ·exact absurd h hkl
   subst e
   refine Prep.play (play_puts o ks [] l _ h1') ?_
   unfold putK
   rw [abOf_up h1,if_pos rfl]
   unfold Ab.has
   rw [put_v]
   cases hv:(abOf az k).v (k,nId (opN o)) with
   | some d=>rfl
   | none=>simp [mlook_cons]
theorem does_play {az:List Ab} {pu:List Nat} (o:OpW) (hk:o.kind≠3) (h1:1≤az.length) (hpl:pu.length=16) (hp:Prep az pu) :
  WPlay az pu (doesA (az,pu) o).1 (doesA (az,pu) o).2∧Prep (doesA (az,pu) o).1 (doesA (az,pu) o).2:=by
 have hg:=pu_getD hpl o
 unfold doesA
 split
 ·split
  ·exact ⟨WPlay.rfl',hp⟩
  ·rename_i hc
   have h0:pu.getD (opN o) 0=0:=Decidable.of_not_not fun hh=>hc (.inl hh)
   have hne:namesL o.keys≠[]:=fun e=>hc (.inr e)
   rw [h0] at hg
   have hlt:=(List.getElem?_eq_some_iff.1 hg).1
   have hset:∀ (n b:Nat),pu[n]?=some b→b≠0→(pu.set (opN o) o.keys)[n]?=some b:=fun n b hn hb=>by
    have:opN o≠n:=fun e=>by subst e;rw [hg] at hn;cases hn;exact hb rfl
    rw [List.getElem?_set_ne this];exact hn
   have hpp:=play_puts o (namesL o.keys) pu (namesL o.keys) az h1
   refine ⟨⟨hpp.len,hset,hpp.v⟩,fun n b hn hb k hkk=>?_⟩
   by_cases e:opN o=n
   ·subst e
    have hn:(pu.set (opN o) o.keys)[opN o]?=some b:=hn
    rw [List.getElem?_set_self hlt] at hn
    cases hn
    exact puts_has o _ _ az h1 k hkk
   ·have hn:(pu.set (opN o) o.keys)[n]?=some b:=hn
    rw [List.getElem?_set_ne e] at hn
    exact Prep.play hpp (hp n b hn hb k hkk)
 ·split
  ·split
   ·have hpp:=play_up (pu:=pu) h1 (atOf o az.length) (fun a=>com_keep a (nId (opN o)) 0)
    exact ⟨hpp,fun n b hn hb k hkk=>Prep.play hpp (hp n b hn hb k hkk)⟩
   ·exact ⟨WPlay.rfl',hp⟩
  ·exact ⟨WPlay.rfl',hp⟩
theorem Prep.zero (az:List Ab):Prep az (List.replicate 16 0):=fun n b hn hb=>by
 exact absurd (List.eq_of_mem_replicate (List.mem_of_getElem? hn)) hb
def UOk (az:List Ab) (pu:List Nat) (u:Fx.Ver):Prop:=u=⟨u.key,0,⟨#[]⟩,.arg,[]⟩∨∃ n b d,pu[n]?=some b∧b≠0∧u.key∈namesL b∧u=⟨u.key,nId n,d.value,.arg,namesL b⟩∧(abOf az u.key).v (u.key,nId n)=some d∧d.keys=namesL b
theorem UOk.play {az az':List Ab} {pu pu':List Nat} {u:Fx.Ver} (h:UOk az pu u) (hp:WPlay az pu az' pu'):UOk az' pu' u:=by
 rcases h with h | ⟨n,b,d,h1,h2,h3,h4,h5,h6⟩
 ·exact .inl h
 ·obtain ⟨d',h7,h8,h9⟩:=hp.v _ _ _ h5
  exact .inr ⟨n,b,d',hp.pu n b h1 h2,h2,h3,by rw [h8];exact h4,h7,by rw [h9];exact h6⟩
theorem latest_UOk {az:List Ab} {pu:List Nat} (h:WInv az pu) (hw:∀ a∈az,AbW a) (h1:1≤az.length) (k:ByteArray):UOk az pu (verOf az k):=by
 rcases latest_ok h hw h1 k with e | ⟨n,b,val,p1,p2,p3,e,d,hd,hv,hk⟩
 ·left;rw [e]
 ·right
  refine ⟨n,b,d,p1,p2,?_,?_,?_,hk⟩
  ·rw [e];exact p3
  ·rw [e,hv]
  ·rw [e];exact hd
theorem UOk.may {az:List Ab} {pu:List Nat} {u:Fx.Ver} (h:UOk az pu u):Fx.may u=true:=by
 rcases h with e | ⟨n,b,d,p1,p2,p3,e,_⟩
 ·rw [e];rfl
 ·rw [e]
  have hpos:1≤(namesL b).length:=List.length_pos_of_mem p3
  have hg:=names_good hpos
  have hid:¬ nId n=0:=by have:=nId_ge n;omega
  unfold Fx.may
  rw [if_neg hid]
  have hr:Fx.rises (namesL b)=true:=by
   have:=names_rises b
   have key:∀ l:List ByteArray,Fx.rises l=rises l:=fun l=>by
    induction l with
    | nil=>rfl
    | cons a l ih=>cases l with
     | nil=>rfl
     | cons c l=>simp -implicitDefEqProofs only [Fx.rises,rises,ih]
   rw [key];exact this
  simp -implicitDefEqProofs only [hr,decide_eq_true (nId_ge n),decide_eq_true hg.2.2,memB_fx,memB_iff.2 p3,Bool.and_self]
theorem us_formed {az:List Ab} {pu:List Nat} {us:List Fx.Ver} (h1:1≤us.length) (h2:us.length≤1024) (hnd:(us.map Fx.Ver.key).Nodup) (hu:∀ u∈us,UOk az pu u):Fx.Formed us:=by
 refine ⟨h1,h2,fun i hi v hv=>⟨(hu v (List.mem_of_getElem? hv)).may,fun j u hj hju=>?_⟩⟩
 have hkk:u.key≠v.key:=fun e=>by
  have a1:(us.map Fx.Ver.key)[j]?=some u.key:=by rw [List.getElem?_map,hju];rfl
  have a2:(us.map Fx.Ver.key)[i]?=some v.key:=by rw [List.getElem?_map,hv];rfl
  rw [e] at a1
  have:=(List.getElem?_inj (List.getElem?_eq_some_iff.1 a1).1 hnd).1 (a1.trans a2.symm)
  omega
 unfold Fx.ok2
 rw [decide_eq_false hkk]
 simp -implicitDefEqProofs only [Bool.not_false,Bool.true_and,Bool.or_eq_true,Bool.not_eq_true',decide_eq_false_iff_not,decide_eq_true_eq]
 rcases hu u (List.mem_of_getElem? hju) with e | ⟨n,b,d,p1,p2,p3,e,_⟩ <;> rcases hu v (List.mem_of_getElem? hv) with e' | ⟨n',b',d',p1',p2',p3',e',_⟩
 ·rw [e,e'];exact .inr rfl
 ·rw [e,e'];left;have:=nId_ge n';show ¬ 0=nId n';omega
 ·rw [e,e'];left;have:=nId_ge n;show ¬ nId n=0;omega
 ·rw [e,e']
  by_cases hn:n=n'
  ·subst hn;rw [p1] at p1';cases p1';exact .inr rfl
  ·left;exact fun hh=>hn (nId_inj hh)
theorem amg_spec (a:Ab) (k:ByteArray) (ids:List Nat):(∀ id∈ids,a.has (k,id)=true→id≤amg a k ids)∧(amg a k ids=0∨(amg a k ids∈ids∧a.has (k,amg a k ids)=true)):=by
 have key:∀ (n:Nat) (ids:List Nat),ids.length=n→(∀ id∈ids,a.has (k,id)=true→id≤amg a k ids)∧(amg a k ids=0∨(amg a k ids∈ids∧a.has (k,amg a k ids)=true)):=by
  intro n
  induction n with
  | zero=>intro ids h;rw [List.eq_nil_of_length_eq_zero h];exact ⟨fun id h=>(by cases h),.inl rfl⟩
  | succ n ih =>
   intro ids h
   obtain ⟨l,x,rfl⟩:∃ l x,ids=l++[x]:=⟨ids.dropLast,ids.getLast (by intro e;rw [e] at h;cases h),(List.dropLast_concat_getLast _).symm⟩
   obtain ⟨i1,i2⟩:=ih l (by simpa using h)
   rw [amg_snoc]
   by_cases hx:x≤amg a k l
   ·rw [if_pos hx]
    refine ⟨fun id hid hh=>?_,?_⟩
    ·rcases List.mem_append.1 hid with h1 | h1
     ·exact i1 id h1 hh
     ·simp at h1;omega
    ·rcases i2 with h | ⟨h,h'⟩
     ·exact .inl h
     ·exact .inr ⟨List.mem_append_left _ h,h'⟩
   ·rw [if_neg hx]
    cases hh:a.has (k,x)
    ·simp -implicitDefEqProofs only [Bool.false_eq_true,if_false]
     refine ⟨fun id hid hh2=>?_,?_⟩
     ·rcases List.mem_append.1 hid with h1 | h1
      ·exact i1 id h1 hh2
      ·simp at h1;subst h1;rw [hh] at hh2;cases hh2
     ·rcases i2 with h | ⟨h,h'⟩
      ·exact .inl h
      ·exact .inr ⟨List.mem_append_left _ h,h'⟩
    ·simp -implicitDefEqProofs only [if_true]
     refine ⟨fun id hid hh2=>?_,.inr ⟨by simp,hh⟩⟩
     rcases List.mem_append.1 hid with h1 | h1
     ·have:=i1 id h1 hh2;omega
     ·simp at h1;omega
 exact key _ _ rfl
structure RdOk (az:List Ab) (pu:List Nat) (us:List Fx.Ver) (ss:List Slm):Prop where
 inv:WInv az pu
 prep:Prep az pu
 l1:1≤az.length
 s:Sls us ss
 u:∀ u∈us,UOk az pu u
def fin (az:List Ab) (us:List Fx.Ver) (u:Fx.Ver):Fx.Ver:=if u.id<Fx.gr us u.key then verAt az u.key (Fx.gr us u.key) else u
theorem verAt_eq {az:List Ab} {k:ByteArray} {n:Nat} {d:Vd} {ks:List ByteArray} (h:(abOf az k).v (k,n)=some d) (hk:d.keys=ks):verAt az k n=⟨k,n,d.value,.arg,ks⟩:=by
 unfold verAt;simp -implicitDefEqProofs only [h];rw [hk]
section
variable {az:List Ab} {pu:List Nat} {us:List Fx.Ver} {ss:List Slm}
theorem RdOk.at_ (h:RdOk az pu us ss) {k:ByteArray} {n b:Nat} (hp:pu[n]?=some b) (hb:b≠0) (hk:k∈namesL b):∃ d,(abOf az k).v (k,nId n)=some d∧d.keys=namesL b:=by
 have hh:=h.prep n b hp hb k hk
 unfold Ab.has at hh
 obtain ⟨d,hd⟩:=Option.isSome_iff_exists.1 hh
 obtain ⟨n',b',p1,p2,p3,p4,_⟩:=h.inv.v _ _ (abOf_at h.l1 k) k _ d hd
 have e:=nId_inj p3
 subst e
 rw [hp] at p1;cases p1
 exact ⟨d,hd,p4⟩
theorem RdOk.gr_ver (h:RdOk az pu us ss) {key:ByteArray} (h0:Fx.gr us key≠0):∃ n b d,pu[n]?=some b∧b≠0∧key∈namesL b∧Fx.gr us key=nId n∧(abOf az key).v (key,nId n)=some d∧d.keys=namesL b∧∃ v∈us,v.id=nId n∧v.keys=namesL b:=by
 rcases gr_is us key with e | ⟨v,hv,h1,h2⟩
 ·exact absurd e h0
 ·have hm:=memB_iff.1 h1
  rcases h.u v hv with e | ⟨n,b,d,p1,p2,p3,e,p4,p5⟩
  ·rw [e] at hm;simp at hm
  ·have ek:v.keys=namesL b:=by rw [e]
   have ei:v.id=nId n:=by rw [e]
   rw [ek] at hm
   obtain ⟨d',q1,q2⟩:=h.at_ p1 p2 hm
   exact ⟨n,b,d',p1,p2,hm,by rw [← h2,ei],q1,q2,v,hv,ei,ek⟩
theorem RdOk.fin_ok (h:RdOk az pu us ss) {u:Fx.Ver} (hu:u∈us):(fin az us u).key=u.key∧UOk az pu (fin az us u)∧u.id≤(fin az us u).id∧Fx.gr us u.key≤(fin az us u).id∧verAt az u.key (fin az us u).id=fin az us u∧(fin az us u).kk=.arg:=by
 unfold fin
 by_cases hlt:u.id<Fx.gr us u.key
 ·rw [if_pos hlt]
  obtain ⟨n,b,d,p1,p2,p3,p4,p5,p6,_⟩:=h.gr_ver (key:=u.key) (by omega)
  have e:verAt az u.key (Fx.gr us u.key)=⟨u.key,nId n,d.value,.arg,namesL b⟩:=by rw [p4];exact verAt_eq p5 p6
  rw [e]
  refine ⟨rfl,.inr ⟨n,b,d,p1,p2,p3,rfl,p5,p6⟩,by show u.id≤nId n;omega,by show _≤nId n;omega,?_,rfl⟩
  exact verAt_eq p5 p6
 ·rw [if_neg hlt]
  refine ⟨rfl,h.u u hu,Nat.le_refl _,by omega,?_,?_⟩
  ·rcases h.u u hu with e | ⟨n,b,d,p1,p2,p3,e,p4,p5⟩
   ·have ei:u.id=0:=by rw [e]
    rw [ei]
    unfold verAt
    cases hv:(abOf az u.key).v (u.key,0) with
    | none=>exact e.symm
    | some d =>
     obtain ⟨n',b',_,_,p3,_⟩:=h.inv.v _ _ (abOf_at h.l1 u.key) u.key 0 d hv
     have:=nId_ge n';omega
   ·have ei:u.id=nId n:=by rw [e]
    rw [ei]
    exact (verAt_eq p4 p5).trans e.symm
  ·rcases h.u u hu with e | ⟨n,b,d,p1,p2,p3,e,_⟩
   ·rw [e]
   ·rw [e]
theorem RdOk.need (h:RdOk az pu us ss) {i:Nat} {u:Fx.Ver} {y:Slm} (hu:us[i]?=some u) (hy:ss[i]?=some y):(if idsOf ss y=[] then 0 else amg (abOf az y.key) y.key (riseL (idsOf ss y)))=if u.id<Fx.gr us u.key then Fx.gr us u.key else 0:=by
 have hw:=h.s.w i u y hu hy
 obtain ⟨a1,a2⟩:=amg_spec (abOf az y.key) y.key (riseL (idsOf ss y))
 have hyk:y.key=u.key:=hw.key
 have real:∀ id∈idsOf ss y,(abOf az y.key).has (y.key,id)=true→u.id<id∧id≤Fx.gr us u.key:=fun id hid hh=>by
  unfold idsOf at hid
  obtain ⟨x,hx,rfl⟩:=List.mem_map.1 hid
  obtain ⟨hx,hm⟩:=List.mem_filter.1 hx
  unfold mayH at hm
  simp -implicitDefEqProofs only [Bool.and_eq_true,decide_eq_true_eq] at hm
  obtain ⟨j,hj⟩:=List.mem_iff_getElem?.1 hx
  obtain ⟨v,hv,hwx⟩:=h.s.at' hj
  refine ⟨by rw [← hw.id];exact hm.1,?_⟩
  unfold Ab.has at hh
  obtain ⟨d,hd⟩:=Option.isSome_iff_exists.1 hh
  obtain ⟨n,b,p1,p2,p3,p4,p5,_⟩:=h.inv.v _ _ (abOf_at h.l1 y.key) y.key _ d hd
  rcases h.u v (List.mem_of_getElem? hv) with e | ⟨n',b',d',q1,q2,q3,e,_⟩
  ·have:v.id=0:=by rw [e]
   rw [hwx.id,this] at hm;omega
  ·have ei:v.id=nId n':=by rw [e]
   have ek:v.keys=namesL b':=by rw [e]
   rw [hwx.id,ei] at p3
   have en:=nId_inj p3
   subst en
   rw [p1] at q1;cases q1
   rw [hwx.id]
   exact Fx.gr_ge (List.mem_of_getElem? hv) (by rw [memB_fx,ek,memB_iff,← hyk];exact p5)
 by_cases hlt:u.id<Fx.gr us u.key
 ·rw [if_pos hlt]
  have hin:=h.s.gr_in hu hy hlt
  have hne:idsOf ss y≠[]:=fun e=>by rw [e] at hin;cases hin
  rw [if_neg hne]
  obtain ⟨n,b,d,p1,p2,p3,p4,p5,p6,_⟩:=h.gr_ver (key:=u.key) (by omega)
  have hh:(abOf az y.key).has (y.key,Fx.gr us u.key)=true:=by
   unfold Ab.has;rw [hyk,p4,p5];rfl
  have h1:=a1 _ (riseL_mem.2 hin) hh
  rcases a2 with h2 | ⟨h2,h3⟩
  ·omega
  ·have:=(real _ (riseL_mem.1 h2) h3).2
   omega
 ·rw [if_neg hlt]
  split
  ·rfl
  ·rcases a2 with h2 | ⟨h2,h3⟩
   ·exact h2
   ·have:=real _ (riseL_mem.1 h2) h3
    omega
theorem us_keys (hf:∀ u∈us,(fin az us u).key=u.key):(us.map (fin az us)).map Fx.Ver.key=us.map Fx.Ver.key:=by
 rw [List.map_map];exact List.map_congr_left fun u hu=>hf u hu
theorem RdOk.cut (h:RdOk az pu us ss):Fx.cutB (us.map (fin az us))=true:=by
 have hform:Fx.Formed (us.map (fin az us)):=us_formed (az:=az) (pu:=pu) (by rw [List.length_map];exact h.s.l1) (by rw [List.length_map];exact h.s.l2) (by rw [us_keys fun u hu=>(h.fin_ok hu).1];exact h.s.nd) fun v hv=>by
  obtain ⟨u,hu,rfl⟩:=List.mem_map.1 hv;exact (h.fin_ok hu).2.1
 have hw:Fx.wants (us.map (fin az us))=[]:=by
  unfold Fx.wants Fx.wants'
  rw [List.map_eq_nil_iff,List.filter_eq_nil_iff]
  intro v hv
  obtain ⟨u,hu,rfl⟩:=List.mem_map.1 hv
  obtain ⟨k1,k2,k3,k4,k5,_⟩:=h.fin_ok hu
  simp -implicitDefEqProofs only [decide_eq_true_eq]
  intro hlt
  rcases gr_is (us.map (fin az us)) (fin az us u).key with e | ⟨x,hx,hm,he⟩
  ·omega
  ·obtain ⟨w,hw,rfl⟩:=List.mem_map.1 hx
   have hm:=memB_iff.1 hm
   rw [k1] at hm
   have hle:(fin az us w).id≤Fx.gr us u.key:=by
    unfold fin at hm ⊢
    by_cases hwl:w.id<Fx.gr us w.key
    ·rw [if_pos hwl] at hm ⊢
     obtain ⟨n,b,d,p1,p2,p3,p4,p5,p6,z,hz,hzi,hzk⟩:=h.gr_ver (key:=w.key) (by omega)
     have e:verAt az w.key (Fx.gr us w.key)=⟨w.key,nId n,d.value,.arg,namesL b⟩:=by rw [p4];exact verAt_eq p5 p6
     rw [e] at hm ⊢
     have:=Fx.gr_ge (key:=u.key) hz (by rw [memB_fx,hzk];exact memB_iff.2 hm)
     show nId n≤_
     omega
    ·rw [if_neg hwl] at hm ⊢
     exact Fx.gr_ge hw (by rw [memB_fx];exact memB_iff.2 hm)
   omega
 unfold Fx.cutB
 rw [Fx.formed_t hform,hw];rfl
def cameOf (az:List Ab) (us:List Fx.Ver):List Fx.Ver:=(Fx.wants us).map fun w=>verAt az w.1 w.2
theorem mends_all {f:Fx.Ver→Option Fx.Ver} {g:Fx.Ver→Fx.Ver}:∀ {l:List Fx.Ver},(∀ u∈l,f u=some (g u))→Fx.mends f l=some (l.map g)
 | [],_=>rfl
 | x :: l,h=>by
  have h1:=h x (by simp)
  have h2:=mends_all (f:=f) (g:=g) (l:=l) fun u hu=>h u (List.mem_cons_of_mem _ hu)
  simp -implicitDefEqProofs only [Fx.mends,h1,h2,List.map_cons]
theorem want_at (h:RdOk az pu us ss) {w:ByteArray × Nat} (hw:w∈Fx.wants us):(verAt az w.1 w.2).key=w.1∧(verAt az w.1 w.2).id=w.2∧(verAt az w.1 w.2).kk=.arg∧(verAt az w.1 w.2).keys.length≤8:=by
 unfold Fx.wants Fx.wants' at hw
 obtain ⟨u,hu,rfl⟩:=List.mem_map.1 hw
 obtain ⟨hu,hlt⟩:=List.mem_filter.1 hu
 simp -implicitDefEqProofs only [decide_eq_true_eq] at hlt
 obtain ⟨n,b,d,p1,p2,p3,p4,p5,p6,_⟩:=h.gr_ver (key:=u.key) (by omega)
 have e:verAt az u.key (Fx.gr us u.key)=⟨u.key,nId n,d.value,.arg,namesL b⟩:=by rw [p4];exact verAt_eq p5 p6
 show (verAt az u.key (Fx.gr us u.key)).key=u.key∧(verAt az u.key (Fx.gr us u.key)).id=Fx.gr us u.key∧(verAt az u.key (Fx.gr us u.key)).kk=.arg∧(verAt az u.key (Fx.gr us u.key)).keys.length≤8
 rw [e]
 exact ⟨rfl,p4.symm,rfl,names_len b⟩
theorem RdOk.mend (h:RdOk az pu us ss) (hform:Fx.Formed us):Fx.mendL us (cameOf az us)=us.map (fin az us)∧Fx.mendE us (cameOf az us)=0:=by
 have hm:Fx.mends (Fx.mendO us (cameOf az us)) us=some (us.map (fin az us)):=by
  refine mends_all fun u hu=>?_
  obtain ⟨k1,k2,k3,k4,k5,k6⟩:=h.fin_ok hu
  have hs:Fx.setK (fin az us u) .arg=fin az us u:=by
   generalize fin az us u=f at *
   cases f;simp only at k6;subst k6;rfl
  unfold Fx.mendO Fx.mendOne
  by_cases hlt:u.id<Fx.gr us u.key
  ·rw [if_pos hlt]
   have hfin:fin az us u=verAt az u.key (Fx.gr us u.key):=by unfold fin;rw [if_pos hlt]
   have hw:(u.key,Fx.gr us u.key)∈Fx.wants us:=by
    unfold Fx.wants Fx.wants'
    exact List.mem_map.2 ⟨u,List.mem_filter.2 ⟨hu,by simpa using hlt⟩,rfl⟩
   have hg:Fx.gotOf (cameOf az us) u.key (Fx.gr us u.key)=some (verAt az u.key (Fx.gr us u.key)):=by
    unfold Fx.gotOf
    cases hf:(cameOf az us).find? fun v=>decide (v.key=u.key)&&decide (v.id=Fx.gr us u.key) with
    | none =>
     rw [List.find?_eq_none] at hf
     have hmem:verAt az u.key (Fx.gr us u.key)∈cameOf az us:=List.mem_map.2 ⟨_,hw,rfl⟩
     have:=hf _ hmem
     obtain ⟨w1,w2,_⟩:=want_at h hw
     simp -implicitDefEqProofs only [w1,w2,decide_true,Bool.and_self,not_true] at this
    | some v =>
     have hv:=List.find?_some hf
     have hvm:=List.mem_of_find?_eq_some hf
     simp -implicitDefEqProofs only [Bool.and_eq_true,decide_eq_true_eq] at hv
     obtain ⟨w,hww,rfl⟩:=List.mem_map.1 hvm
     obtain ⟨w1,w2,_⟩:=want_at h hww
     rw [w1,w2] at hv
     rw [hv.1,hv.2]
   rw [hg,Option.map_some,← hfin,hs]
  ·rw [if_neg hlt,Option.map_some]
   have hfin:fin az us u=u:=by unfold fin;rw [if_neg hlt]
   rw [hfin] at hs ⊢
   rw [hs]
 refine ⟨?_,?_⟩
 ·unfold Fx.mendL
  rw [if_pos hform,hm];rfl
 ·unfold Fx.mendE
  rw [if_pos hform,hm];rfl
theorem RdOk.slim (h:RdOk az pu us ss) {i:Nat} {u:Fx.Ver} {y:Slm} (hu:us[i]?=some u) (hy:ss[i]?=some y) {ws:List Wst} (hab:abAt ws y.key=abOf az y.key) {b j:Nat} (b1:1≤b) (b2:b≤65536) (j1:1≤j) (j2:j≤16) :
  (needN ws ss y≠0→(needS ws b j y (needN ws ss y)).2=0)∧WSl (fin az us u) (secondS ws b j ss y):=by
 have hum:=List.mem_of_getElem? hu
 have hw:=h.s.w i u y hu hy
 have hn:needN ws ss y=if u.id<Fx.gr us u.key then Fx.gr us u.key else 0:=by
  unfold needN;rw [hab];exact h.need hu hy
 have hsh:shOk (b:Int) (j:Int)=true:=by simp [shOk];omega
 unfold secondS
 rw [hn]
 unfold fin
 by_cases hlt:u.id<Fx.gr us u.key
 ·simp -implicitDefEqProofs only [hlt,if_true]
  obtain ⟨n,bb,d,p1,p2,p3,p4,p5,p6,_⟩:=h.gr_ver (key:=u.key) (by omega)
  have hz:¬ Fx.gr us u.key=0:=by omega
  have e:verAt az u.key (Fx.gr us u.key)=⟨u.key,nId n,d.value,.arg,namesL bb⟩:=by rw [p4];exact verAt_eq p5 p6
  have hpos:1≤(namesL bb).length:=List.length_pos_of_mem p3
  have hg:=names_good hpos
  have hofk:ofOk u.key (nId n) (namesL bb)=true:=by
   unfold ofOk
   rw [names_rises,memB_iff.2 p3,decide_eq_true (nId_ge n),decide_eq_true hpos,decide_eq_true hg.2.2];rfl
  have hns:needS ws b j y (Fx.gr us u.key)=(mkSlm u.key (nId n) d.value (namesL bb) b j,0):=by
   unfold needS amgV
   rw [hab,hw.key,p4]
   have hid:¬ nId n=0:=by have:=nId_ge n;omega
   simp -implicitDefEqProofs only [hid,if_false,p5,vdOf,Option.getD_some,p6]
   exact ofS_mk hsh hofk
  rw [if_neg hz,hns,e]
  refine ⟨fun _=>rfl,rfl,rfl,rfl,fun _ t ht=>?_,mk_slim b1 b2 j1 j2 (nId_ge n) p3,mk_SlmB b2 (by have:=names_size p3;omega)⟩
  rw [mk_hasF _ _ _ _ _ b1 b2 j2];exact keyP_has ht b j
 ·simp -implicitDefEqProofs only [hlt,if_false]
  exact ⟨fun hh=>absurd rfl hh,hw⟩
end
def Box (H:Heap) (q:Nat) (xs:List Pt) (c:Nat) (cs:List T):Prop:=H[c]?=some (.cells cs)∧¬ WU q xs c
def Grow (n0:Nat) (H:Heap) (q:Nat) (xs:List Pt) (k:SK):Prop:=Apd n0 H k∧∀ t e,k=.own t e→¬ WU q xs t
def Apart (k k':SK):Prop:=∀ t e e',k=.own t e→k'≠.own t e'
section
variable {H0 H H':Heap} {q m n0:Nat} {k1 k2 k k':SK} {xs xs':List Pt} {pu:List Nat} {c:Nat} {cs:List T}
theorem Box.ext (h:Box H q xs c cs) (hx:Ext H H'):Box H' q xs c cs:=⟨hx.get h.1,h.2⟩
theorem Box.does (h:Box H q xs c cs) (hf:Frm (WU q xs) H H') (hg:Gro (WU q xs) (WU q xs') H H'):Box H' q xs' c cs:=⟨hf.get h.1 h.2,fun hc=>by
 rcases hg c hc with h1 | h1
 ·exact h.2 h1
 ·have:=glt h.1;omega⟩
theorem Grow.ext (h:Grow n0 H q xs k) (hx:Ext H H'):Grow n0 H' q xs k:=⟨h.1.ext hx,h.2⟩
theorem Grow.does (h:Grow n0 H q xs k) (hf:Frm (WU q xs) H H') (hg:Gro (WU q xs) (WU q xs') H H'):Grow n0 H' q xs' k:=by
 obtain ⟨ha,hn⟩:=h
 rcases ha with h | h | ⟨t,e,h,ht,hx⟩
 ·exact ⟨.inl h,fun t e he=>by rw [h] at he;cases he⟩
 ·exact ⟨.inr (.inl h),fun t e he=>by rw [h] at he;cases he⟩
 ·refine ⟨.inr (.inr ⟨t,e,h,ht,hf.get hx (hn t e h)⟩),fun t' e' he hc=>?_⟩
  rw [h] at he;cases he
  rcases hg t hc with h1 | h1
  ·exact hn t e h h1
  ·have:=glt hx;omega
theorem grow_nil (n0:Nat) (H:Heap) (q:Nat) (xs:List Pt):Grow n0 H q xs .nil:=⟨apd_nil _ _,fun t e h=>by cases h⟩
theorem growApp {bytes:Nat} (hw:Wd H0 H q k1 k2 xs pu m) (hk:Grow H0.length H q xs k) (hk':Grow H0.length H q xs k') (ha:Apart k k') (es:List (List T)) (el:List T) (hr:roomOk (es.length+1) bytes=true) (he:el.map T.erase=el) :
  ∃ kn H',appT H bytes k es [el]=some (.sl kn (es++[el]),H')∧Wd H0 H' q k1 k2 xs pu m∧Grow H0.length H' q xs kn∧Grow H0.length H' q xs k'∧Apart kn k'∧∀ c cs,Box H q xs c cs→Box H' q xs c cs:=by
 have hl:=hw.ext.len
 obtain ⟨kn,H',h1,h2,h3,h4⟩:=app1_ok (bytes:=bytes) es el hk.1 hl hr he
 have hf:=stay_frm h3
 have hlen:=h3.len
 have hkt:∀ t e,k=.own t e→t<H.length:=fun t e h=>apd_lt hk.1 h
 have hkt':∀ t e,k'=.own t e→t<H.length:=fun t e h=>apd_lt hk'.1 h
 refine ⟨kn,H',h1,hw.frm hf (fun c hc ⟨e,he⟩=>hk.2 c e he hc) (h3.ext H0 (Nat.le_refl _) hw.ext),⟨h2,fun t e he hc=>?_⟩,⟨?_,hk'.2⟩,fun t e e' he he'=>?_,fun c cs hb=>⟨h3.cells hk.1 hb.1 (by simp),hb.2⟩⟩
 ·rcases h4 t e he with ⟨e0,h0⟩ | h0
  ·exact hk.2 t e0 h0 hc
  ·have:=hw.lt hc;omega
 ·rcases hk'.1 with h | h | ⟨t,e,h,ht,hx⟩
  ·exact .inl h
  ·exact .inr (.inl h)
  ·exact .inr (.inr ⟨t,e,h,ht,h3.get t _ hx fun e' he'=>ha t e' e he' h⟩)
 ·rcases h4 t e he with ⟨e0,h0⟩ | h0
  ·exact ha t e0 e' h0 he'
  ·have:=hkt' t e' he';omega
end
def toW (m:Nat) (x:Pt):Wst:=⟨x.b,x.a,x.F,m⟩
theorem stP_pt (m:Nat) (xs:List Pt):(stP (xs.map (toW m))).map eSt=xs.map eP1:=by
 unfold stP
 rw [List.map_map,List.map_map]
 exact List.map_congr_left fun x _=>rfl
section
variable {H0 H:Heap} {q:Nat} {k1 k2:SK} {xs:List Pt} {pu:List Nat}
theorem WdA.ws (h:WdA H0 H q k1 k2 pu xs):Wsts H (xs.map (toW (8*nz pu))):=fun w hw=>by
 obtain ⟨x,hx,rfl⟩:=List.mem_map.1 hw
 exact (h.1.ok x hx).at_
theorem abAt_pt (m:Nat) (xs:List Pt) (k:ByteArray):abAt (xs.map (toW m)) k=abOf (xs.map Pt.a) k:=by
 unfold abAt abOf
 rw [List.length_map,List.length_map,List.getElem?_map,List.getElem?_map]
 cases xs[ofN k xs.length]? <;> rfl
theorem WdA.sizes (h:WdA H0 H q k1 k2 pu xs) (m:Nat):Sizes (xs.map (toW m)):=fun w hw mm v hv x hx=>by
 obtain ⟨p,hp,rfl⟩:=List.mem_map.1 hw
 obtain ⟨i,hi⟩:=List.mem_iff_getElem?.1 hp
 have hai:(xs.map Pt.a)[i]?=some p.a:=by rw [List.getElem?_map,hi];rfl
 obtain ⟨n,b,_,_,_,p4,_⟩:=h.2.2.2.v i p.a hai mm.1 mm.2 v hv
 rw [p4] at hx
 have:=names_size hx;omega
theorem WdA.l1 (h:WdA H0 H q k1 k2 pu xs):1≤(xs.map Pt.a).length:=by rw [List.length_map];exact h.2.1
theorem WdA.first (h:WdA H0 H q k1 k2 pu xs) (kk:SK) (k:ByteArray) (hk:k.size≤1) {b j:Nat} (b1:1≤b) (b2:b≤65536) (j1:1≤j) (j2:j≤16) :
  ∃ s,WSl (verOf (xs.map Pt.a) k) s∧W env (.call 23 [.sl k1 (xs.map eP1),.sl kk [[.str k]],.agg [.int .i64 b,.int .i64 j]]) H (fun o H'=>Ext H H'∧∃ k',o=.val (.tup [.sl k' [eSl .arg s],.int .i64 0])):=by
 obtain ⟨s,hs,hw,_⟩:=of_latest h.2.2.2 h.ab h.l1 k hk b1 b2 j1 j2
 have hsh:shOk (b:Int) (j:Int)=true:=by simp [shOk];omega
 have hf:firstS (xs.map (toW (8*nz pu))) b j k=(s,0):=by
  unfold firstS;rw [abAt_pt];exact hs
 have hv:validK [k]=true:=by
  unfold validK;simp;omega
 have hlen:(xs.map (toW (8*nz pu))).length=xs.length:=List.length_map _
 have h23:=first23 sortT12 k1 kk (xs.map (toW (8*nz pu))) [k] b j h.ws (by rw [hlen];exact h.2.1) (by rw [hlen];have:=h.2.2.1;omega) (h.sizes _) hsh (fun x hx=>by simp at hx;subst hx;omega) (by simp) (by simp) (fun x hx=>by simp at hx;subst hx;rw [hf])
 rw [stP_pt] at h23
 refine ⟨s,hw,W.use h23 fun o H' ⟨hx,hq⟩=>⟨hx,?_⟩⟩
 rcases hq with ⟨hn,_⟩ | ⟨_,k',hu⟩
 ·rw [hv] at hn;cases hn
 ·refine ⟨k',?_⟩
  rw [hu]
  simp -implicitDefEqProofs only [List.map_cons,List.map_nil,hf]
theorem WdA.second (h:WdA H0 H q k1 k2 pu xs) {us:List Fx.Ver} {ss:List Slm} (hr:RdOk (xs.map Pt.a) pu us ss) (hl:ss.length≤12) (kk:SK) {b j:Nat} (b1:1≤b) (b2:b≤65536) (j1:1≤j) (j2:j≤16) :
  ∃ gs,Sls (us.map (fin (xs.map Pt.a) us)) gs∧W env (.call 24 [.sl k1 (xs.map eP1),.sl kk (ss.map (eSl .arg)),.agg [.int .i64 b,.int .i64 j]]) H (fun o H'=>Ext H H'∧∃ k',o=.val (.tup [.sl k' (gs.map (eSl .arg)),.int .i64 0])):=by
 have hsh:shOk (b:Int) (j:Int)=true:=by simp [shOk];omega
 have hlen:(xs.map (toW (8*nz pu))).length=xs.length:=List.length_map _
 have hsl:∀ (i:Nat) u y,us[i]?=some u→ss[i]?=some y→_:=fun i u y hu hy=>hr.slim (ws:=xs.map (toW (8*nz pu))) hu hy (abAt_pt _ _ _) b1 b2 j1 j2
 have h24:=second24 sortI12 k1 kk (xs.map (toW (8*nz pu))) ss b j h.ws (by rw [hlen];exact h.2.1) (by rw [hlen];have:=h.2.2.1;omega) (h.sizes _) hsh hr.s.sb (by omega) (by omega) (fun y hy hn=>by
  obtain ⟨i,hi⟩:=List.mem_iff_getElem?.1 hy
  obtain ⟨u,hu,_⟩:=hr.s.at' hi
  exact (hsl i u y hu hi).1 hn)
 rw [stP_pt] at h24
 refine ⟨ss.map (secondS (xs.map (toW (8*nz pu))) b j ss),⟨by simp [hr.s.len],fun i v s hv hs=>?_,by rw [List.length_map];exact hr.s.l1,by rw [List.length_map];exact hr.s.l2,by rw [us_keys fun u hu=>(hr.fin_ok hu).1];exact hr.s.nd⟩,W.use h24 fun o H' ⟨hx,hq⟩=>⟨hx,?_⟩⟩
 ·rw [List.getElem?_map] at hv hs
  obtain ⟨u,hu,rfl⟩:=Option.map_eq_some_iff.1 hv
  obtain ⟨y,hy,rfl⟩:=Option.map_eq_some_iff.1 hs
  exact (hsl i u y hu hy).2
 ·rcases hq with ⟨hn,_⟩ | ⟨_,k',hu⟩
  ·rw [hr.s.formed] at hn;cases hn
  ·exact ⟨k',hu⟩
end
def UsI (az:List Ab) (pu:List Nat) (ks:List ByteArray) (us:List Fx.Ver) (ss:List Slm) (i:Nat):Prop:=us.length=i∧ss.length=i∧(∀ (j:Nat) u,us[j]?=some u→ks[j]?=some u.key∧UOk az pu u)∧∀ (j:Nat) u s,us[j]?=some u→ss[j]?=some s→WSl u s
theorem UsI.play {az az':List Ab} {pu pu':List Nat} {ks:List ByteArray} {us:List Fx.Ver} {ss:List Slm} {i:Nat} (h:UsI az pu ks us ss i) (hp:WPlay az pu az' pu'):UsI az' pu' ks us ss i :=
 ⟨h.1,h.2.1,fun j u hu=>⟨(h.2.2.1 j u hu).1,(h.2.2.1 j u hu).2.play hp⟩,h.2.2.2⟩
theorem snoc_at {α:Type} {l:List α} {x y:α} {j:Nat} (h:(l++[x])[j]?=some y):(j<l.length∧l[j]?=some y)∨(j=l.length∧y=x):=by
 by_cases hj:j<l.length
 ·rw [List.getElem?_append_left hj] at h;exact .inl ⟨hj,h⟩
 ·rw [List.getElem?_append_right (by omega)] at h
  have hjl:=(List.getElem?_eq_some_iff.1 h).1
  simp at hjl
  have e:j=l.length:=by omega
  subst e
  simp at h
  exact .inr ⟨rfl,h.symm⟩
theorem UsI.snoc {az:List Ab} {pu:List Nat} {ks:List ByteArray} {us:List Fx.Ver} {ss:List Slm} {i:Nat} (h:UsI az pu ks us ss i) {u:Fx.Ver} {s:Slm} (hk:ks[i]?=some u.key) (hu:UOk az pu u) (hw:WSl u s):UsI az pu ks (us++[u]) (ss++[s]) (i+1):=by
 obtain ⟨h1,h2,h3,h4⟩:=h
 refine ⟨by simp [h1],by simp [h2],fun j v hv=>?_,fun j v t hv ht=>?_⟩
 ·rcases snoc_at hv with ⟨_,hv⟩ | ⟨e,rfl⟩
  ·exact h3 j v hv
  ·rw [e,h1];exact ⟨hk,hu⟩
 ·rcases snoc_at hv with ⟨hj,hv⟩ | ⟨e,rfl⟩
  ·rcases snoc_at ht with ⟨_,ht⟩ | ⟨e',_⟩
   ·exact h4 j v t hv ht
   ·omega
  ·rcases snoc_at ht with ⟨hj,_⟩ | ⟨_,rfl⟩
   ·omega
   ·exact hw
theorem sll1 {α:Type} {enc:α→List T} {n:Nat} (hn:∀ x,(enc x).length=n) (kn:SK) {l:List α} {i:Nat} {x:α} (h:l[i]?=some x):∃ k',∀ R Hx a b c,(X.r a).ev R=.sl kn (l.map enc)→(X.r b).ev R=.int .i64 i→(X.r c).ev R=.int .i64 ((i+1:Nat):Int)→evop R Hx (.sll n (.r a) (some (.r b)) (some (.r c)) none)=some (.sl k' [enc x],Hx):=by
 have hi:=(List.getElem?_eq_some_iff.1 h).1
 refine ⟨kn.cut (l.map enc).length i (i+1),fun R Hx a b c ha hb hc=>?_⟩
 have hall:=all_map (enc:=enc) (n:=n) hn l
 simp -implicitDefEqProofs only [evop,ha,bnd,hb,hc,natOf_nat]
 rw [if_pos ⟨by omega,by rw [List.length_map];omega,hall⟩]
 have e:(List.drop i (List.take (i+1) (l.map enc)))=[enc x]:=by
  rw [← List.map_take,← List.map_drop,take_snoc h,List.drop_left' (by simp;omega)];rfl
 rw [e]
structure Mid (H2 H:Heap) (q:Nat) (k1 k2:SK) (pu:List Nat) (xs:List Pt) (e1 e2 b1 j1 b2 j2:Nat):Prop where
 wa:WdA H2 H q k1 k2 pu xs
 pr:Prep (xs.map Pt.a) pu
 x1:Box H q xs e1 [.int .i64 b1,.int .i64 j1]
 x2:Box H q xs e2 [.int .i64 b2,.int .i64 j2]
theorem Mid.ext {H2 H H':Heap} {q:Nat} {k1 k2:SK} {pu:List Nat} {xs:List Pt} {e1 e2 b1 j1 b2 j2:Nat} (h:Mid H2 H q k1 k2 pu xs e1 e2 b1 j1 b2 j2) (hx:Ext H H'):Mid H2 H' q k1 k2 pu xs e1 e2 b1 j1 b2 j2:=⟨h.wa.goE hx,h.pr,h.x1.ext hx,h.x2.ext hx⟩
theorem Mid.does {H2 H:Heap} {q:Nat} {k1 k2:SK} {pu:List Nat} {xs:List Pt} {e1 e2 b1 j1 b2 j2:Nat} (h:Mid H2 H q k1 k2 pu xs e1 e2 b1 j1 b2 j2) (o:OpW) (ho:OpWOk o∧-9223372036854775808≤o.at_∧o.at_<9223372036854775808) (hk:o.kind≠3) :
  W env (.call 27 [.ptr q 0,.agg (eOp o)]) H (fun u H'=>u=.val (.tup [])∧∃ pu' xs',Mid H2 H' q k1 k2 pu' xs' e1 e2 b1 j1 b2 j2∧WPlay (xs.map Pt.a) pu (xs'.map Pt.a) pu'∧Frm (WU q xs) H H'∧Gro (WU q xs) (WU q xs') H H'):=by
 refine W.use (does27 o ho.1 ho.2 h.wa.1 h.wa.2.1 h.wa.2.2.1) fun u H' hd=>?_
 obtain ⟨xs',pu',hu,wa',hm,hf,hg⟩:=h.wa.does ho.1 hd
 have hp:=does_play o hk h.wa.l1 h.wa.2.2.2.pl h.pr
 rw [← hm] at hp
 exact ⟨hu,pu',xs',⟨wa',hp.2,h.x1.does hf hg,h.x2.does hf hg⟩,hp.1,hf,hg⟩
set_option maxHeartbeats 16000000 in
theorem whole8 (parts:Int) (ko kb ka:SK) (ops bts afs:List OpW) (bits:Nat) (sh:List Int) (hb:bits<256) (hsh:sh.length=4)
  (hops:∀ o∈ops,OpWOk o∧-9223372036854775808≤o.at_∧o.at_<9223372036854775808) (hol:ops.length≤8000000)
  (hbts:∀ o∈bts,OpWOk o∧-9223372036854775808≤o.at_∧o.at_<9223372036854775808) (hbl:bts.length≤8000000)
  (hafs:∀ o∈afs,OpWOk o∧-9223372036854775808≤o.at_∧o.at_<9223372036854775808) (hal:afs.length≤8000000) (H:Heap) :
  W env (.call 8 [.int .i64 parts,.sl ko (ops.map eOp),.int .u8 bits,.sl kb (bts.map eOp),.sl ka (afs.map eOp),.agg (zC sh)]) H (fun o _=>o=.val (.bool true)):=by
 refine W.fnI rfl rfl rfl ?_
 obtain ⟨H1,hH1⟩:∃ H1,H1=H++[B.cells (zC sh)]:=⟨_,rfl⟩
 have c1:H1[H.length]?=some (.cells (zC sh)):=by rw [hH1];exact g_tail rfl
 have regs5:∀ (a b c d e f:T) (l:List T),regs0 (a :: b :: c :: d :: e :: f :: l) 5=f:=fun _ _ _ _ _ _ _=>rfl
 simp -implicitDefEqProofs only [ir8,op,ef,cl,sq,reduceIte,q4,q5,q6,q7,q8,q9,j3,j4,j5,S1,regs5]
 rw [← hH1]
 refine callB_of _ _ _ _ _ _ _ _ (alive10 _) ?_
 rintro u H2 ⟨hx2,hu⟩
 cases hu
 have hx2:Ext H1 H2:=hx2
 have c2:=hx2.get c1
 simp -implicitDefEqProofs only [op,ef,cl,sq,reduceIte,q4,q5,q6,q7,q8,q9,j3,j4,j5,S1]
 refine callB_of _ _ _ _ _ _ _ _ (made26 parts _) ?_
 rintro u H3 ⟨q,k1,k2,xs0,hu,hw0,hl1,hl2,hemp⟩
 cases hu
 have wa0:WdA H2 H3 q k1 k2 (List.replicate 16 0) xs0:=⟨hw0,hl1,hl2,WInv.zero (emp_map hemp)⟩
 have eq0:eqRef .ptr (.ptr q 0) .nilp=some false:=rfl
 simp -implicitDefEqProofs only [op,ef,cl,sq,reduceIte,q4,q5,q6,q7,q8,q9,j3,j4,j5,S1,eq0]
 refine W.loopX 0 [(1,_),(2,_),(3,_),(4,_),(11,_),(13,_)] (fun (i:Nat) R H'=>At H' (fun H'=>∃ pu xs,WdA H2 H' q k1 k2 pu xs∧Prep (xs.map Pt.a) pu)∧R 14=.int .i64 i∧i≤ops.length) (fun i=>ops.length-i) 0
  (fun R H'=>At H' (fun H'=>∃ pu xs,WdA H2 H' q k1 k2 pu xs∧Prep (xs.map Pt.a) pu)) ⟨.i ⟨_,_,wa0,Prep.zero _⟩,rfl,Nat.zero_le _⟩ ?_ ?_
 ·rintro i R H4 ⟨⟨pu,xs,wa,hpr⟩,g14,hi⟩
  by_cases hlt:i<ops.length
  rotate_left
  ·have hie:i=ops.length:=by omega
   subst hie
   simp -implicitDefEqProofs only [mkR_nil,mkR_cons,op,ef,cl,sq,reduceIte,q4,q5,q6,q7,q8,q9,j3,j4,j5,S1,List.length_map,g14,hlt,exitQ]
   exact .i ⟨pu,xs,wa,hpr⟩
  obtain ⟨o,ho⟩:=getP hlt
  have io:=iadX (e:=eOp) (n:=5) (fun _=>rfl) (by decide) (k:=ko) ho
  have wsi:=wrap_succ (show i<9223372036854775807 by omega)
  have hoo:=hops o (List.mem_of_getElem? ho)
  have f0:fadT 0 (.iptr (eOp o))=some (.iptr (eOp o)):=rfl
  have l1:∀ Hx,ldc Hx 1 (.iptr (eOp o))=some [.int .i64 o.kind]:=fun _=>rfl
  have ld5:∀ Hx,ldc Hx 5 (.iptr (eOp o))=some (eOp o):=fun _=>rfl
  by_cases h3:o.kind=3
  ·have e3:(o.kind != 3)=false:=by simp [h3]
   simp -implicitDefEqProofs only [mkR_nil,mkR_cons,op,ef,cl,sq,reduceIte,q4,q5,q6,q7,q8,q9,j3,j4,j5,S1,List.length_map,g14,hlt,natOf_nat,io,f0,l1,e3,wsi]
   exact ⟨i+1,by omega,.i ⟨pu,xs,wa,hpr⟩,rfl,hlt⟩
  have e3:(o.kind != 3)=true:=by simpa using h3
  simp -implicitDefEqProofs only [mkR_nil,mkR_cons,op,ef,cl,sq,reduceIte,q4,q5,q6,q7,q8,q9,j3,j4,j5,S1,List.length_map,g14,hlt,natOf_nat,io,f0,l1,ld5,e3]
  refine callB_of _ _ _ _ _ _ _ _ (does27 o hoo.1 hoo.2 wa.1 wa.2.1 wa.2.2.1) ?_
  intro u H5 hd
  obtain ⟨xs',pu',hu,wa',hm,_,_⟩:=wa.does hoo.1 hd
  cases hu
  have hp:=(does_play o h3 wa.l1 wa.2.2.2.pl hpr).2
  rw [← hm] at hp
  simp -implicitDefEqProofs only [op,ef,cl,sq,reduceIte,q4,q5,q6,q7,q8,q9,j3,j4,j5,S1,g14,wsi]
  exact ⟨i+1,by omega,.i ⟨pu',xs',wa',hp⟩,rfl,hlt⟩
 rintro R H4 ⟨pu0,xs0,wa,hpr0⟩
 have c4:=wa.1.ext.get c2
 have o1:IntKind.u8.wrap ((BitVec.ofInt IntKind.u8.bits (bits:Int) ||| BitVec.ofInt IntKind.u8.bits 1).toNat:Nat)=((bits ||| 1:Nat):Int):=or1 hb 1 (by decide)
 have hb1:bits ||| 1<256:=Nat.or_lt_two_pow (n:=8) hb (by decide)
 simp -implicitDefEqProofs only [mkR_nil,mkR_cons,op,ef,cl,sq,reduceIte,q4,q5,q6,q7,q8,q9,j3,j4,j5,S1,o1]
 refine callB_of _ _ _ _ _ _ _ _ (names28 (bits ||| 1) hb1 _) ?_
 rintro u H5 ⟨hx5,kn,hkn,hu⟩
 cases hu
 have hx5:Ext H4 H5:=hx5
 have wa5:=wa.goE hx5
 obtain ⟨ks,hks⟩:∃ ks,ks=namesL (bits ||| 1):=⟨_,rfl⟩
 rw [← hks] at hkn ⊢
 have hk8:ks.length≤8:=by rw [hks];exact names_len _
 have hk1:1≤ks.length:=by
  rw [hks]
  have hne:bits ||| 1≠0:=fun h0=>by
   have h2:(bits ||| 1).testBit 0=true:=by rw [Nat.testBit_or];simp
   rw [h0] at h2;simp at h2
  exact List.length_pos_iff.2 (names_some hne hb1)
 have hnd:ks.Nodup:=by rw [hks];exact names_nd _
 have hksz:∀ k∈ks,k.size≤1:=fun k hk=>by rw [hks] at hk;exact names_size hk
 have c5:=hx5.get c4
 obtain ⟨z0,hz0⟩:=getP (l:=sh) (i:=0) (by omega)
 obtain ⟨z1,hz1⟩:=getP (l:=sh) (i:=1) (by omega)
 obtain ⟨z2,hz2⟩:=getP (l:=sh) (i:=2) (by omega)
 obtain ⟨z3,hz3⟩:=getP (l:=sh) (i:=3) (by omega)
 have q0:=zC_get' hz0
 have q1:=zC_get' hz1
 have q2:=zC_get' hz2
 have q3:=zC_get' hz3
 have n0:natOf (.int .i64 0)=some 0:=rfl
 have n1:natOf (.int .i64 1)=some 1:=rfl
 have n2:natOf (.int .i64 2)=some 2:=rfl
 have n3:natOf (.int .i64 3)=some 3:=rfl
 simp -implicitDefEqProofs only [op,ef,cl,sq,reduceIte,q4,q5,q6,q7,q8,q9,j3,j4,j5,S1,c5,n0,n1,q0,q1]
 refine callB_of _ _ _ _ _ _ _ _ (shaped32 z0 z1 _) ?_
 rintro u H6 ⟨hx6,sb1,sj1,a1,a2,a3,a4,hu⟩
 cases hu
 have hx6:Ext H5 H6:=hx6
 have wa6:=wa5.goE hx6
 have c6:=hx6.get c5
 obtain ⟨H7,hH7⟩:∃ H7,H7=H6++[B.cells [T.int .i64 (sb1:Int),T.int .i64 (sj1:Int)]]:=⟨_,rfl⟩
 have hx7:Ext H6 H7:=⟨_,hH7⟩
 have wa7:=wa6.goE hx7
 have c7:=hx7.get c6
 have d7:Box H7 q xs0 H6.length [T.int .i64 (sb1:Int),T.int .i64 (sj1:Int)]:=⟨by rw [hH7];exact g_tail rfl,fun hc=>by have:=wa6.1.lt hc;omega⟩
 simp -implicitDefEqProofs only [op,ef,cl,sq,reduceIte,q4,q5,q6,q7,q8,q9,j3,j4,j5,S1,S2,c5,c6,n0,n1,q0,q1]
 rw [← hH7]
 simp -implicitDefEqProofs only [op,ef,cl,sq,reduceIte,q4,q5,q6,q7,q8,q9,j3,j4,j5,S1,c7,n2,n3,q2,q3]
 refine callB_of _ _ _ _ _ _ _ _ (shaped32 z2 z3 _) ?_
 rintro u H8 ⟨hx8,sb2,sj2,b1,b2,b3,b4,hu⟩
 cases hu
 have hx8:Ext H7 H8:=hx8
 have wa8:=wa7.goE hx8
 have c8:=hx8.get c7
 obtain ⟨H9,hH9⟩:∃ H9,H9=H8++[B.cells [T.int .i64 (sb2:Int),T.int .i64 (sj2:Int)]]:=⟨_,rfl⟩
 have hx9:Ext H8 H9:=⟨_,hH9⟩
 have wa9:=wa8.goE hx9
 have d9:Box H9 q xs0 H8.length [T.int .i64 (sb2:Int),T.int .i64 (sj2:Int)]:=⟨by rw [hH9];exact g_tail rfl,fun hc=>by have:=wa8.1.lt hc;omega⟩
 have mid9:Mid H2 H9 q k1 k2 pu0 xs0 H6.length H8.length sb1 sj1 sb2 sj2:=⟨wa9,hpr0,(d7.ext hx8).ext hx9,d9⟩
 simp -implicitDefEqProofs only [op,ef,cl,sq,reduceIte,q4,q5,q6,q7,q8,q9,j3,j4,j5,S1,S2,c7,c8,n2,n3,q2,q3]
 rw [← hH9]
 obtain ⟨e1,he1⟩:∃ e,e=H6.length:=⟨_,rfl⟩
 obtain ⟨e2,he2⟩:∃ e,e=H8.length:=⟨_,rfl⟩
 rw [← he1,← he2] at mid9 ⊢
 have hu0:UsI (xs0.map Pt.a) pu0 ks [] [] 0:=⟨rfl,rfl,fun j u h=>by simp at h,fun j u s h=>by simp at h⟩
 refine W.loopX 2 [(3,_),(4,_),(13,_),(15,_),(16,_),(17,_)] (fun (i:Nat) R H'=>At H' (fun H'=>∃ pu xs k18 k19 us ss,Mid H2 H' q k1 k2 pu xs e1 e2 sb1 sj1 sb2 sj2∧R 18=.sl k18 (ss.map (eSl .arg))∧R 19=.sl k19 (Fx.encVs us)∧Grow H2.length H' q xs k18∧Grow H2.length H' q xs k19∧Apart k18 k19∧UsI (xs.map Pt.a) pu ks us ss i)∧R 20=.int .i64 i∧i≤ks.length) (fun i=>ks.length-i) 0
  (fun R H'=>At H' (fun H'=>∃ pu xs k18 k19 us ss,Mid H2 H' q k1 k2 pu xs e1 e2 sb1 sj1 sb2 sj2∧R 18=.sl k18 (ss.map (eSl .arg))∧R 19=.sl k19 (Fx.encVs us)∧UsI (xs.map Pt.a) pu ks us ss ks.length)) ⟨.i ⟨pu0,xs0,.nil,.nil,[],[],mid9,rfl,rfl,grow_nil _ _ _ _,grow_nil _ _ _ _,(fun t e e' h=>by cases h),hu0⟩,rfl,Nat.zero_le _⟩ ?_ ?_
 ·rintro i R H10 ⟨⟨pu,xs,k18,k19,us,ss,mid,g18,g19,gr18,gr19,hap,hus⟩,g20,hi⟩
  by_cases hlt:i<ks.length
  rotate_left
  ·have hie:i=ks.length:=by omega
   subst hie
   simp -implicitDefEqProofs only [mkR_nil,mkR_cons,op,ef,cl,sq,reduceIte,q4,q5,q6,q7,q8,q9,j3,j4,j5,S1,List.length_map,g18,g19,g20,hlt,exitQ]
   exact .i ⟨pu,xs,k18,k19,us,ss,mid,rfl,rfl,hus⟩
  have gs:=wd_s (k1:=k1) (k2:=k2) (xs:=xs) (pu:=pu)
  obtain ⟨k,hk⟩:=getP hlt
  have hkm:=List.mem_of_getElem? hk
  have wsi:=wrap_succ (show i<9223372036854775807 by omega)
  obtain ⟨kc,hsl⟩:=sll1 (enc:=eS) (n:=1) (fun _=>rfl) kn hk
  obtain ⟨s,hws,hf23⟩:=mid.wa.first kc k (hksz k hkm) a1 a2 a3 a4
  simp -implicitDefEqProofs only [mkR_nil,mkR_cons,op,ef,cl,sq,reduceIte,q4,q5,q6,q7,q8,q9,j3,j4,j5,S1,List.length_map,g18,g19,g20,hlt,natOf_nat,wsi,mid.wa.1.hq,gs,mid.x1.1,↓hsl]
  refine callB_of _ _ _ _ _ _ _ _ hf23 ?_
  rintro u H11 ⟨hx11,kr,hu⟩
  cases hu
  have hx11:Ext H10 H11:=hx11
  have mid11:=mid.ext hx11
  have happ:=growApp (bytes:=64) mid11.wa.1 (gr18.ext hx11) (gr19.ext hx11) hap (ss.map (eSl .arg)) (eSl .arg s) (roomT (by simp -implicitDefEqProofs only [List.length_map];rw [hus.2.1];omega)) rfl
  obtain ⟨kn18,H12,app18,wd12,gr18',gr19',hap',hb12⟩:=happ
  have mid12:Mid H2 H12 q k1 k2 pu xs e1 e2 sb1 sj1 sb2 sj2:=⟨⟨wd12,mid11.wa.2⟩,mid11.pr,hb12 _ _ mid11.x1,hb12 _ _ mid11.x2⟩
  have is0:iadT 4 0 (.sl kr [eSl .arg s])=some (.iptr (eSl .arg s)):=rfl
  have lds:∀ Hx,ldc Hx 4 (.iptr (eSl .arg s))=some (eSl .arg s):=fun _=>rfl
  simp -implicitDefEqProofs only [eSl] at is0 lds
  have hall:=all_map (enc:=eSl .arg) (n:=4) (fun _=>rfl) ss
  have app18':appT H11 64 k18 (ss.map (eSl .arg)) [[.str s.key,.int .u64 s.id,.str s.val,.sl .arg (s.fil.map eB)]]=some (.sl kn18 ((ss++[s]).map (eSl .arg)),H12):=by rw [List.map_append];exact app18
  simp -implicitDefEqProofs only [op,ef,cl,sq,reduceIte,q4,q5,q6,q7,q8,q9,j3,j4,j5,S1,n0,List.length_cons,List.length_nil,is0,lds,g18,g19,g20,natOf_nat,wsi,hall,eSl,app18',↓hsl]
  refine callB_of _ _ _ _ _ _ _ _ (latest31 kc [k] mid12.wa.1 mid12.wa.2.1 (by have:=mid12.wa.2.2.1;omega) (fun x hx=>by simp at hx;subst hx;have:=hksz x hkm;omega) (by simp)) ?_
  rintro u H13 ⟨hx13,kv,hu⟩
  cases hu
  have hx13:Ext H12 H13:=hx13
  have mid13:=mid12.ext hx13
  have hkk:(verOf (xs.map Pt.a) k).kk=.arg:=rfl
  have hvk:(verOf (xs.map Pt.a) k).key=k:=rfl
  have huok:UOk (xs.map Pt.a) pu (verOf (xs.map Pt.a) k):=latest_UOk mid13.wa.2.2.2 mid13.wa.ab mid13.wa.l1 k
  have e1v:Fx.encVs ([k].map (verOf (xs.map Pt.a)))=[Fx.encV (verOf (xs.map Pt.a) k)]:=rfl
  rw [e1v]
  clear e1v
  generalize verOf (xs.map Pt.a) k=v at *
  have iv0:iadT 4 0 (.sl kv [Fx.encV v])=some (.iptr (Fx.encV v)):=rfl
  have ldV:=Fx.ldV
  have happ:=growApp (bytes:=64) mid13.wa.1 (gr19'.ext hx13) (gr18'.ext hx13) (fun t e e' h h'=>hap' t e' e h' h) (Fx.encVs us) (Fx.encV v) (roomT (by rw [Fx.encVs_len,hus.1];omega)) (by unfold Fx.encV;rw [hkk];rfl)
  obtain ⟨kn19,H14,app19,wd14,gr19n,gr18n,hapn,hb14⟩:=happ
  have mid14:Mid H2 H14 q k1 k2 pu xs e1 e2 sb1 sj1 sb2 sj2:=⟨⟨wd14,mid13.wa.2⟩,mid13.pr,hb14 _ _ mid13.x1,hb14 _ _ mid13.x2⟩
  have hallV:=Fx.allV us
  have eV:Fx.encV v=[.str v.key,.int .u64 v.id,.str v.val,.sl .arg (Fx.encS v.keys)]:=by unfold Fx.encV;rw [hkk]
  have app19':appT H13 64 k19 (Fx.encVs us) [[.str v.key,.int .u64 v.id,.str v.val,.sl .arg (Fx.encS v.keys)]]=some (.sl kn19 (Fx.encVs (us++[v])),H14):=by rw [← eV];unfold Fx.encVs at app19 ⊢;rw [List.map_append];exact app19
  have hus':=hus.snoc (u:=v) (s:=s) (by rw [hvk];exact hk) huok hws
  have iss:=iadX (e:=eSl .arg) (n:=4) (fun _=>rfl) (by decide) (k:=kn18) (show (ss++[s])[i]?=some s by rw [← hus.2.1];simp)
  have isv:=Fx.iadV (k:=kn19) (show (us++[v])[i]?=some v by rw [← hus.1];simp)
  have ik:=iadX (e:=eS) (n:=1) (fun _=>rfl) (by decide) (k:=kn) hk
  have fs0:fadT 0 (.iptr (eSl .arg s))=some (.iptr (.str s.key :: [.int .u64 s.id,.str s.val,.sl .arg (s.fil.map eB)])):=rfl
  have fs1:fadT 1 (.iptr (eSl .arg s))=some (.iptr (.int .u64 s.id :: [.str s.val,.sl .arg (s.fil.map eB)])):=rfl
  have fs2:fadT 2 (.iptr (eSl .arg s))=some (.iptr (.str s.val :: [.sl .arg (s.fil.map eB)])):=rfl
  have fv1:fadT 1 (.iptr (Fx.encV v))=some (.iptr (.int .u64 v.id :: [.str v.val,.sl v.kk (Fx.encS v.keys)])):=rfl
  have fv2:fadT 2 (.iptr (Fx.encV v))=some (.iptr (.str v.val :: [.sl v.kk (Fx.encS v.keys)])):=rfl
  have fid:=hws.id
  have fval:=hws.val
  have fkey:=hws.key
  rw [hvk] at fkey
  rw [fid] at fs1
  rw [fval] at fs2
  rw [fkey] at fs0
  simp -implicitDefEqProofs only [eSl,Fx.encV] at iss isv iv0 ldV fs0 fs1 fs2 fv1 fv2
  simp -implicitDefEqProofs only [Fx.encV,op,ef,cl,sq,reduceIte,q4,q5,q6,q7,q8,q9,j3,j4,j5,S1,n0,iv0,ldc_iptr,ldV,g18,g19,g20,natOf_nat,hallV,app19',iss,isv,ik,eS,fs0,fs1,fs2,fv1,fv2]
  by_cases hbl':i<bts.length
  rotate_left
  ·simp -implicitDefEqProofs only [op,ef,cl,sq,reduceIte,q4,q5,q6,q7,q8,q9,j3,j4,j5,S1,hbl',List.length_map,g20,wsi]
   exact ⟨i+1,by omega,.i ⟨pu,xs,kn18,kn19,us++[v],ss++[s],mid14,rfl,rfl,gr18n,gr19n,(fun t e e' h h'=>hapn t e' e h' h),hus'⟩,rfl,hlt⟩
  obtain ⟨o,ho⟩:=getP hbl'
  have io:=iadX (e:=eOp) (n:=5) (fun _=>rfl) (by decide) (k:=kb) ho
  have hoo:=hbts o (List.mem_of_getElem? ho)
  have f0:fadT 0 (.iptr (eOp o))=some (.iptr (eOp o)):=rfl
  have l1:∀ Hx,ldc Hx 1 (.iptr (eOp o))=some [.int .i64 o.kind]:=fun _=>rfl
  have ld5:∀ Hx,ldc Hx 5 (.iptr (eOp o))=some (eOp o):=fun _=>rfl
  by_cases h3:o.kind=3
  ·have e3:(o.kind != 3)=false:=by simp [h3]
   simp -implicitDefEqProofs only [op,ef,cl,sq,reduceIte,q4,q5,q6,q7,q8,q9,j3,j4,j5,S1,hbl',List.length_map,natOf_nat,io,f0,l1,e3,g20,wsi]
   exact ⟨i+1,by omega,.i ⟨pu,xs,kn18,kn19,us++[v],ss++[s],mid14,rfl,rfl,gr18n,gr19n,(fun t e e' h h'=>hapn t e' e h' h),hus'⟩,rfl,hlt⟩
  have e3:(o.kind != 3)=true:=by simpa using h3
  simp -implicitDefEqProofs only [op,ef,cl,sq,reduceIte,q4,q5,q6,q7,q8,q9,j3,j4,j5,S1,hbl',List.length_map,natOf_nat,io,f0,l1,ld5,e3,g20]
  refine callB_of _ _ _ _ _ _ _ _ (mid14.does o hoo h3) ?_
  rintro u H15 ⟨hu,pu',xs',mid15,hp,hfr,hgr⟩
  cases hu
  simp -implicitDefEqProofs only [op,ef,cl,sq,reduceIte,q4,q5,q6,q7,q8,q9,j3,j4,j5,S1,g20,wsi]
  exact ⟨i+1,by omega,.i ⟨pu',xs',kn18,kn19,us++[v],ss++[s],mid15,rfl,rfl,gr18n.does hfr hgr,gr19n.does hfr hgr,(fun t e e' h h'=>hapn t e' e h' h),hus'.play hp⟩,rfl,hlt⟩
 rintro R H10 ⟨pu1,xs1,k18,k19,us,ss,mid1,g18,g19,hus1⟩
 simp -implicitDefEqProofs only [mkR_nil,mkR_cons,op,ef,cl,sq,reduceIte,q4,q5,q6,q7,q8,q9,j3,j4,j5,S1,g18,g19]
 refine W.loopX 4 [(4,_),(13,_),(15,_),(17,_),(18,_),(19,_)] (fun (i:Nat) R H'=>At H' (fun H'=>∃ pu xs,Mid H2 H' q k1 k2 pu xs e1 e2 sb1 sj1 sb2 sj2∧UsI (xs.map Pt.a) pu ks us ss ks.length)∧R 23=.int .i64 i∧i≤afs.length) (fun i=>afs.length-i) 0
  (fun R H'=>At H' (fun H'=>∃ pu xs,Mid H2 H' q k1 k2 pu xs e1 e2 sb1 sj1 sb2 sj2∧UsI (xs.map Pt.a) pu ks us ss ks.length)) ⟨.i ⟨pu1,xs1,mid1,hus1⟩,rfl,Nat.zero_le _⟩ ?_ ?_
 ·rintro i R H11 ⟨⟨pu,xs,mid,hus⟩,g23,hi⟩
  by_cases hlt:i<afs.length
  rotate_left
  ·have hie:i=afs.length:=by omega
   subst hie
   simp -implicitDefEqProofs only [mkR_nil,mkR_cons,op,ef,cl,sq,reduceIte,q4,q5,q6,q7,q8,q9,j3,j4,j5,S1,List.length_map,g23,hlt,exitQ]
   exact .i ⟨pu,xs,mid,hus⟩
  obtain ⟨o,ho⟩:=getP hlt
  have io:=iadX (e:=eOp) (n:=5) (fun _=>rfl) (by decide) (k:=ka) ho
  have wsi:=wrap_succ (show i<9223372036854775807 by omega)
  have hoo:=hafs o (List.mem_of_getElem? ho)
  have f0:fadT 0 (.iptr (eOp o))=some (.iptr (eOp o)):=rfl
  have l1:∀ Hx,ldc Hx 1 (.iptr (eOp o))=some [.int .i64 o.kind]:=fun _=>rfl
  have ld5:∀ Hx,ldc Hx 5 (.iptr (eOp o))=some (eOp o):=fun _=>rfl
  by_cases h3:o.kind=3
  ·have e3:(o.kind != 3)=false:=by simp [h3]
   simp -implicitDefEqProofs only [mkR_nil,mkR_cons,op,ef,cl,sq,reduceIte,q4,q5,q6,q7,q8,q9,j3,j4,j5,S1,List.length_map,g23,hlt,natOf_nat,io,f0,l1,e3,wsi]
   exact ⟨i+1,by omega,.i ⟨pu,xs,mid,hus⟩,rfl,hlt⟩
  have e3:(o.kind != 3)=true:=by simpa using h3
  simp -implicitDefEqProofs only [mkR_nil,mkR_cons,op,ef,cl,sq,reduceIte,q4,q5,q6,q7,q8,q9,j3,j4,j5,S1,List.length_map,g23,hlt,natOf_nat,io,f0,l1,ld5,e3]
  refine callB_of _ _ _ _ _ _ _ _ (mid.does o hoo h3) ?_
  rintro u H12 ⟨hu,pu',xs',mid',hp,_,_⟩
  cases hu
  simp -implicitDefEqProofs only [op,ef,cl,sq,reduceIte,q4,q5,q6,q7,q8,q9,j3,j4,j5,S1,g23,wsi]
  exact ⟨i+1,by omega,.i ⟨pu',xs',mid',hus.play hp⟩,rfl,hlt⟩
 rintro R H11 ⟨pu,xs,mid,hus⟩
 obtain ⟨az,haz⟩:∃ az,az=xs.map Pt.a:=⟨_,rfl⟩
 have hul:=hus.1
 have hsl:=hus.2.1
 have hukeys:us.map Fx.Ver.key=ks:=by
  refine List.ext_getElem? fun j=>?_
  rw [List.getElem?_map]
  cases hj:us[j]? with
  | none =>
   have:ks.length≤j:=by rw [← hul];exact List.getElem?_eq_none_iff.1 hj
   rw [List.getElem?_eq_none this];rfl
  | some u=>rw [(hus.2.2.1 j u hj).1];rfl
 have hr:RdOk az pu us ss:=by
  rw [haz]
  exact ⟨mid.wa.2.2.2,mid.pr,mid.wa.l1,⟨by omega,hus.2.2.2,by omega,by omega,by rw [hukeys];exact hnd⟩,fun u hu=>by
   obtain ⟨j,hj⟩:=List.mem_iff_getElem?.1 hu
   exact (hus.2.2.1 j u hj).2⟩
 have gs:=wd_s (k1:=k1) (k2:=k2) (xs:=xs) (pu:=pu)
 obtain ⟨gl,hgl,hf24⟩:=mid.wa.second (by rw [← haz];exact hr) (by omega) k18 b1 b2 b3 b4
 simp -implicitDefEqProofs only [mkR_nil,mkR_cons,op,ef,cl,sq,reduceIte,q4,q5,q6,q7,q8,q9,j3,j4,j5,S1,g18,g19,mid.wa.1.hq,gs,mid.x2.1]
 refine callB_of _ _ _ _ _ _ _ _ hf24 ?_
 rintro u H12 ⟨hx12,kg,hu⟩
 cases hu
 have hx12:Ext H11 H12:=hx12
 rw [← haz] at hgl
 have hgll:gl.length=ks.length:=by rw [hgl.len,List.length_map];exact hul
 simp -implicitDefEqProofs only [op,ef,cl,sq,reduceIte,q4,q5,q6,q7,q8,q9,j3,j4,j5,S1,g18,g19,List.length_map,hgll]
 refine callB_of _ _ _ _ _ _ _ _ (formed16 kg gl hgl.sb (by omega) _) ?_
 rintro u H13 ⟨hx13,hu⟩
 cases hu
 have hx13:Ext H12 H13:=hx13
 have hform:Fx.Formed us:=us_formed (by omega) (by omega) (by rw [hukeys];exact hnd) hr.u
 have hkeyl:∀ v,UOk az pu v→v.keys.length≤8:=fun v hv=>by
  rcases hv with e | ⟨n,b,d,_,_,_,e,_⟩
  ·rw [e];exact Nat.zero_le _
  ·rw [e];exact names_len b
 have hsm:Fx.Small us:=⟨by omega,fun v hv=>by have:=hkeyl v (hr.u v hv);omega⟩
 simp -implicitDefEqProofs only [op,ef,cl,sq,reduceIte,q4,q5,q6,q7,q8,q9,j3,j4,j5,S1,hgl.formed]
 refine callB_of _ _ _ _ _ _ _ _ (Fx.needs9 k19 us _ hsm) ?_
 rintro u H14 ⟨hx14,kw,hu⟩
 cases hu
 have hx14:Ext H13 H14:=hx14
 have mid14:=((mid.ext hx12).ext hx13).ext hx14
 have hnd':Fx.needs us=Fx.wants us:=by unfold Fx.needs;rw [if_pos hform]
 have hne':Fx.needsE us=0:=by unfold Fx.needsE;rw [if_pos hform]
 rw [hnd',hne']
 have hwl:(Fx.wants us).length≤8:=by
  unfold Fx.wants Fx.wants'
  rw [List.length_map]
  exact Nat.le_trans (List.length_filter_le _ _) (by omega)
 simp -implicitDefEqProofs only [op,ef,cl,sq,reduceIte,q4,q5,q6,q7,q8,q9,j3,j4,j5,S1]
 obtain ⟨ws,hws⟩:∃ ws,ws=Fx.wants us:=⟨_,rfl⟩
 rw [← hws] at hwl ⊢
 have hcame:cameOf az us=ws.map fun w=>verAt az w.1 w.2:=by rw [hws];rfl
 have hwk:∀ w∈ws,w.1.size≤1∧((verAt az w.1 w.2).kk=.arg∧(verAt az w.1 w.2).keys.length≤8):=fun w hw=>by
  rw [hws] at hw
  have h2:=want_at hr hw
  refine ⟨?_,h2.2.2.1,h2.2.2.2⟩
  unfold Fx.wants Fx.wants' at hw
  obtain ⟨u,hu,rfl⟩:=List.mem_map.1 hw
  have hu:=(List.mem_filter.1 hu).1
  refine hksz _ ?_
  rw [← hukeys]
  exact List.mem_map.2 ⟨u,hu,rfl⟩
 have hakk:∀ k n,(verAt az k n).kk=.arg:=fun k n=>by unfold verAt;cases (abOf az k).v (k,n) <;> rfl
 refine W.loopX 6 [(13,_),(15,_),(18,_),(19,_),(24,_),(26,_),(27,_)] (fun (i:Nat) R H'=>At H' (fun H'=>Mid H2 H' q k1 k2 pu xs e1 e2 sb1 sj1 sb2 sj2∧∃ kk,R 28=.sl kk (Fx.encVs ((ws.take i).map fun w=>verAt az w.1 w.2))∧Grow H2.length H' q xs kk)∧R 29=.int .i64 i∧i≤ws.length) (fun i=>ws.length-i) 0
  (fun R H'=>At H' (fun H'=>Mid H2 H' q k1 k2 pu xs e1 e2 sb1 sj1 sb2 sj2∧∃ kk,R 28=.sl kk (Fx.encVs (cameOf az us)))) ⟨.i ⟨mid14,.nil,rfl,grow_nil _ _ _ _⟩,rfl,Nat.zero_le _⟩ ?_ ?_
 ·rintro i R H15 ⟨⟨mid,kk,g28,hgr⟩,g29,hi⟩
  by_cases hlt:i<ws.length
  rotate_left
  ·have hie:i=ws.length:=by omega
   subst hie
   simp -implicitDefEqProofs only [mkR_nil,mkR_cons,op,ef,cl,sq,reduceIte,q4,q5,q6,q7,q8,q9,j3,j4,j5,S1,Fx.encWs_len,g28,g29,hlt,exitQ]
   exact .i ⟨mid,kk,by rw [hcame,List.take_length]⟩
  obtain ⟨w,hw⟩:=getP hlt
  have hwm:=hwk w (List.mem_of_getElem? hw)
  have wsi:=wrap_succ (show i<9223372036854775807 by omega)
  have iw:=iadX (e:=Fx.encW) (n:=2) (fun _=>rfl) (by decide) (k:=kw) hw
  have fw0:fadT 0 (.iptr (Fx.encW w))=some (.iptr (.str w.1 :: [.int .u64 w.2])):=rfl
  have fw1:fadT 1 (.iptr (Fx.encW w))=some (.iptr (.int .u64 w.2 :: [])):=rfl
  have eW:Fx.encWs ws=ws.map Fx.encW:=rfl
  simp -implicitDefEqProofs only [mkR_nil,mkR_cons,op,ef,cl,sq,reduceIte,q4,q5,q6,q7,q8,q9,j3,j4,j5,S1,eW,List.length_map,g28,g29,hlt,natOf_nat,iw,fw0,fw1,ldc_iptr]
  refine callB_of _ _ _ _ _ _ _ _ (byID34 w.1 w.2 mid.wa.1 mid.wa.2.1 (by have:=mid.wa.2.2.1;omega) (by omega)) ?_
  rintro u H16 ⟨hx16,kv,hkv,hu⟩
  cases hu
  have hx16:Ext H15 H16:=hx16
  have mid16:=mid.ext hx16
  rw [← haz]
  have hvk:=hakk w.1 w.2
  have htk:(ws.take (i+1)).map (fun w=>verAt az w.1 w.2)=(ws.take i).map (fun w=>verAt az w.1 w.2)++[verAt az w.1 w.2]:=by rw [take_snoc hw,List.map_append];rfl
  generalize verAt az w.1 w.2=v at *
  have eV:Fx.encV v=[.str v.key,.int .u64 v.id,.str v.val,.sl .arg (Fx.encS v.keys)]:=by unfold Fx.encV;rw [hvk]
  have happ:=growApp (bytes:=64) mid16.wa.1 (hgr.ext hx16) (grow_nil _ _ _ _) (fun t e e' _ h'=>by cases h') (Fx.encVs ((ws.take i).map fun w=>verAt az w.1 w.2)) (Fx.encV v) (roomT (by rw [Fx.encVs_len,List.length_map,List.length_take];omega)) (by rw [eV];rfl)
  obtain ⟨kn2,H17,app2,wd17,gr17,_,_,hb17⟩:=happ
  have mid17:Mid H2 H17 q k1 k2 pu xs e1 e2 sb1 sj1 sb2 sj2:=⟨⟨wd17,mid16.wa.2⟩,mid16.pr,hb17 _ _ mid16.x1,hb17 _ _ mid16.x2⟩
  have app2':appT H16 64 kk (Fx.encVs ((ws.take i).map fun w=>verAt az w.1 w.2)) [[.str v.key,.int .u64 v.id,.str v.val,.sl .arg (Fx.encS v.keys)]]=some (.sl kn2 (Fx.encVs ((ws.take (i+1)).map fun w=>verAt az w.1 w.2)),H17):=by rw [htk,← eV];unfold Fx.encVs at app2 ⊢;rw [List.map_append];exact app2
  have hallV:=Fx.allV ((ws.take i).map fun w=>verAt az w.1 w.2)
  simp -implicitDefEqProofs only [Fx.encV,Fx.setK,op,ef,cl,sq,reduceIte,q4,q5,q6,q7,q8,q9,j3,j4,j5,S1,g28,g29,hallV,app2',wsi]
  exact ⟨i+1,by omega,.i ⟨mid17,kn2,rfl,gr17⟩,rfl,hlt⟩
 rintro R H15 ⟨mid15,kc,g28⟩
 have hnil:Fx.NilOk us:=fun v hv=>by
  have h8:=hkeyl v (hr.u v hv)
  refine ⟨fun e=>?_,by omega⟩
  rcases hr.u v hv with e' | ⟨n,b,d,_,_,_,e',_⟩
  ·rw [e']
  ·rw [e'] at e;cases e
 have hnilc:Fx.NilOk (cameOf az us):=fun v hv=>by
  rw [hcame] at hv
  obtain ⟨w,hw,rfl⟩:=List.mem_map.1 hv
  have h8:=(hwk w hw).2
  exact ⟨fun e=>(by rw [h8.1] at e;cases e),by omega⟩
 obtain ⟨hm1,hm2⟩:=hr.mend hform
 simp -implicitDefEqProofs only [mkR_nil,mkR_cons,op,ef,cl,sq,reduceIte,q4,q5,q6,q7,q8,q9,j3,j4,j5,S1,g19,g28]
 refine callB_of _ _ _ _ _ _ _ _ (Fx.mend16 k19 kc us (cameOf az us) _ hsm hnil hnilc (by rw [hcame,List.length_map];omega)) ?_
 rintro u H16 ⟨hx16,km,hu⟩
 cases hu
 rw [hm1,hm2]
 have hx16:Ext H15 H16:=hx16
 have mid16:=mid15.ext hx16
 obtain ⟨fs,hfs⟩:∃ fs,fs=us.map (fin az us):=⟨_,rfl⟩
 have hcut:=hr.cut
 rw [← hfs] at hgl hcut ⊢
 have hfl:fs.length=ks.length:=by rw [hfs,List.length_map];exact hul
 have zb:((0:Nat):Int)=0:=rfl
 simp -implicitDefEqProofs only [op,ef,cl,sq,reduceIte,q4,q5,q6,q7,q8,q9,j3,j4,j5,S1,g18,g19,zb,Fx.encVs_len,hfl]
 refine W.loopX 8 [(13,_),(15,_),(18,_),(24,_),(30,_)] (fun (i:Nat) R H'=>At H' (fun H'=>Mid H2 H' q k1 k2 pu xs e1 e2 sb1 sj1 sb2 sj2∧∃ kk,R 32=.sl kk (Fx.encVs (fs.take i))∧Grow H2.length H' q xs kk)∧R 33=.int .i64 i∧i≤ks.length) (fun i=>ks.length-i) 0
  (fun R H'=>∃ kk,R 32=.sl kk (Fx.encVs fs)) ⟨.i ⟨mid16,.nil,rfl,grow_nil _ _ _ _⟩,rfl,Nat.zero_le _⟩ ?_ ?_
 ·rintro i R H17 ⟨⟨mid,kk,g32,hgr⟩,g33,hi⟩
  by_cases hlt:i<ks.length
  rotate_left
  ·have hie:i=ks.length:=by omega
   subst hie
   simp -implicitDefEqProofs only [mkR_nil,mkR_cons,op,ef,cl,sq,reduceIte,q4,q5,q6,q7,q8,q9,j3,j4,j5,S1,List.length_map,g32,g33,hlt,exitQ]
   exact ⟨kk,by rw [← hfl,List.take_length]⟩
  obtain ⟨k,hk⟩:=getP hlt
  obtain ⟨u,hu⟩:=getP (l:=us) (i:=i) (by omega)
  obtain ⟨s,hs⟩:=getP (l:=ss) (i:=i) (by omega)
  obtain ⟨g,hg⟩:=getP (l:=gl) (i:=i) (by omega)
  have hf:fs[i]?=some (fin az us u):=by rw [hfs,List.getElem?_map,hu];rfl
  have hku:k=u.key:=by have:=(hus.2.2.1 i u hu).1;rw [hk] at this;exact Option.some.inj this
  obtain ⟨q1',q2',q3',q4',q5',q6'⟩:=hr.fin_ok (List.mem_of_getElem? hu)
  have wss:=hus.2.2.2 i u s hu hs
  have wsg:=hgl.w i _ g hf hg
  rw [← hku] at q1' q5'
  have sid:=wss.id
  have gid:=wsg.id
  have gval:=wsg.val
  have gkey:=wsg.key
  generalize fin az us u=f at *
  rw [q1'] at gkey
  have wsi:=wrap_succ (show i<9223372036854775807 by omega)
  have ik:=iadX (e:=eS) (n:=1) (fun _=>rfl) (by decide) (k:=kn) hk
  have ig:=iadX (e:=eSl .arg) (n:=4) (fun _=>rfl) (by decide) (k:=kg) hg
  have is:=iadX (e:=eSl .arg) (n:=4) (fun _=>rfl) (by decide) (k:=k18) hs
  have iv:=Fx.iadV (k:=km) hf
  have fs1:fadT 1 (.iptr (eSl .arg s))=some (.iptr (.int .u64 s.id :: [.str s.val,.sl .arg (s.fil.map eB)])):=rfl
  have fg0:fadT 0 (.iptr (eSl .arg g))=some (.iptr (.str g.key :: [.int .u64 g.id,.str g.val,.sl .arg (g.fil.map eB)])):=rfl
  have fg1:fadT 1 (.iptr (eSl .arg g))=some (.iptr (.int .u64 g.id :: [.str g.val,.sl .arg (g.fil.map eB)])):=rfl
  have fg2:fadT 2 (.iptr (eSl .arg g))=some (.iptr (.str g.val :: [.sl .arg (g.fil.map eB)])):=rfl
  have fv1:fadT 1 (.iptr (Fx.encV f))=some (.iptr (.int .u64 f.id :: [.str f.val,.sl f.kk (Fx.encS f.keys)])):=rfl
  have fv2:fadT 2 (.iptr (Fx.encV f))=some (.iptr (.str f.val :: [.sl f.kk (Fx.encS f.keys)])):=rfl
  rw [sid] at fs1
  rw [gkey] at fg0
  rw [gid] at fg1
  rw [gval] at fg2
  have hlss:¬ ((f.id:Int)<(u.id:Int)):=by omega
  obtain ⟨H18,hH18⟩:∃ H18,H18=H17++[B.cells [T.str ⟨#[]⟩,.int .u64 0,.str ⟨#[]⟩,.sl .nil []]]:=⟨_,rfl⟩
  have hx18:Ext H17 H18:=⟨_,hH18⟩
  have d18:H18[H17.length]?=some (.cells [T.str ⟨#[]⟩,.int .u64 0,.str ⟨#[]⟩,.sl .nil []]):=by rw [hH18];exact g_tail rfl
  have mid18:=mid.ext hx18
  simp -implicitDefEqProofs only [mkR_nil,mkR_cons,op,ef,cl,sq,reduceIte,q4,q5,q6,q7,q8,q9,j3,j4,j5,S1,List.length_map,g32,g33,hlt,natOf_nat,ik,ig,fg1,ldc_iptr,eS]
  rw [← hH18]
  refine callB_of _ _ _ _ _ _ _ _ (byID34 k f.id mid18.wa.1 mid18.wa.2.1 (by have:=mid18.wa.2.2.1;omega) (by have:=hksz k (List.mem_of_getElem? hk);omega)) ?_
  rintro o H19 ⟨hx19,kv,hkv,ho⟩
  cases ho
  have hx19:Ext H18 H19:=hx19
  rw [← haz,q5'] at hkv ⊢
  have d19:=hx19.get d18
  have l19:=glt d19
  obtain ⟨H20,hH20⟩:∃ H20,H20=H19.set H17.length (.cells (Fx.encV (Fx.setK f kv))):=⟨_,rfl⟩
  have d20:H20[H17.length]?=some (.cells (Fx.encV (Fx.setK f kv))):=by rw [hH20];exact g_eq l19
  have hx20:Ext H17 H20:=by rw [hH20];exact (hx18.trans hx19).set (Nat.le_refl _) _
  have mid20:=mid.ext hx20
  have eV:Fx.encV f=[.str f.key,.int .u64 f.id,.str f.val,.sl .arg (Fx.encS f.keys)]:=by unfold Fx.encV;rw [q6']
  have happ:=growApp (bytes:=64) mid20.wa.1 (hgr.ext hx20) (grow_nil _ _ _ _) (fun t e e' _ h'=>by cases h') (Fx.encVs (fs.take i)) (Fx.encV f) (roomT (by rw [Fx.encVs_len,List.length_take];omega)) (by rw [eV];rfl)
  obtain ⟨kn2,H21,app2,wd21,gr21,_,_,hb21⟩:=happ
  have mid21:Mid H2 H21 q k1 k2 pu xs e1 e2 sb1 sj1 sb2 sj2:=⟨⟨wd21,mid20.wa.2⟩,mid20.pr,hb21 _ _ mid20.x1,hb21 _ _ mid20.x2⟩
  have app2':appT H20 64 kk (Fx.encVs (fs.take i)) [[.str f.key,.int .u64 f.id,.str f.val,.sl .arg (Fx.encS f.keys)]]=some (.sl kn2 (Fx.encVs (fs.take (i+1))),H21):=by rw [take_snoc hf,← eV];unfold Fx.encVs at app2 ⊢;rw [List.map_append];exact app2
  have hallV:=Fx.allV (fs.take i)
  simp -implicitDefEqProofs only [Fx.encV,Fx.setK] at hH20 d20 iv fv1 fv2
  simp -implicitDefEqProofs only [eSl] at ig is fs1 fg0 fg1 fg2
  simp -implicitDefEqProofs only [Fx.encV,Fx.setK,op,ef,cl,sq,reduceIte,q4,q5,q6,q7,q8,q9,j3,j4,j5,S1,d19,l19]
  rw [← hH20]
  simp -implicitDefEqProofs only [eSl,eS,op,ef,cl,sq,reduceIte,q4,q5,q6,q7,q8,q9,j3,j4,j5,S1,d20,List.length_map,g32,g33,natOf_nat,ik,ig,is,iv,fs1,fg0,fg1,fg2,fv1,fv2,ldc_iptr,hlss,hallV,app2',wsi]
  exact ⟨i+1,by omega,.i ⟨mid21,kn2,rfl,gr21⟩,rfl,hlt⟩
 rintro R H17 ⟨kk,g32⟩
 have hfu:∀ v∈fs,UOk az pu v:=fun v hv=>by
  rw [hfs] at hv
  obtain ⟨u,hu,rfl⟩:=List.mem_map.1 hv
  exact (hr.fin_ok hu).2.1
 simp -implicitDefEqProofs only [mkR_nil,mkR_cons,op,ef,cl,sq,reduceIte,q4,q5,q6,q7,q8,q9,j3,j4,j5,S1,g32]
 refine callB_of _ _ _ _ _ _ _ _ (Fx.cut14 kk fs _ ⟨by omega,fun v hv=>by have:=hkeyl v (hfu v hv);omega⟩) ?_
 rintro u H18 ⟨hu,_⟩
 cases hu
 rw [hcut]
 simp -implicitDefEqProofs only [op,ef,cl,sq,reduceIte,q4,q5,q6,q7,q8,q9,j3,j4,j5,S1]
end Go.Proofs.YtmgldhlcapjdkaaGreat.St
end

section
namespace Go.Proofs.YtmgldhlcapjdkaaGreat
open Go.ChangeShapes Go.WideShapes Go.ChangeAt Go.RowKit
namespace Law
theorem own:ownKnob Tryz.prog.godebug=none:=by kernel_rfl
theorem kids:Kids Tryz.prog (·<Tryz.prog.types.size):=kids_rows (by kernel_rfl) (by kernel_rfl)
noncomputable def hzB:Bool:=(List.range Tryz.prog.types.size).all fun t=>match Tryz.prog.underlying t with
 | some (.slice e)=>decide (0<Tryz.prog.cellsOf e)
 | _=>true
theorem hzB_ok:hzB=true:=by kernel_rfl
theorem hz:∀ t e,t<Tryz.prog.types.size→Tryz.prog.underlying t=some (.slice e)→0<Tryz.prog.cellsOf e:=fun t e ht h=>by
 have:=(List.all_eq_true.1 hzB_ok) t (List.mem_range.2 ht)
 rw [h] at this
 simpa using this
mutual
theorem bulk_eq {H:Type}:∀ d:DataW H,Go.Rmp.bulkW d=Rows.uptoBulk d
 | .lit l=>by cases l <;> simp [Go.Rmp.bulkW,Rows.uptoBulk]
 | .nil=>by simp [Go.Rmp.bulkW,Rows.uptoBulk]
 | .ptr d=>by simp [Go.Rmp.bulkW,Rows.uptoBulk,bulk_eq d]
 | .slice elems spare=>by simp [Go.Rmp.bulkW,Rows.uptoBulk,bulks_eq elems,bulks_eq spare]
 | .agg parts=>by simp [Go.Rmp.bulkW,Rows.uptoBulk,bulks_eq parts]
 | .iface _ d=>by simp [Go.Rmp.bulkW,Rows.uptoBulk,bulk_eq d]
 | .map entries=>by simp [Go.Rmp.bulkW,Rows.uptoBulk,bulkE_eq entries]
 | .held _=>by simp [Go.Rmp.bulkW,Rows.uptoBulk]
theorem bulks_eq {H:Type}:∀ l:List (DataW H),Go.Rmp.bulkAllW l=Rows.uptoBulkAll l
 | []=>by simp [Go.Rmp.bulkAllW,Rows.uptoBulkAll]
 | d :: r=>by simp [Go.Rmp.bulkAllW,Rows.uptoBulkAll,bulk_eq d,bulks_eq r]
theorem bulkE_eq {H:Type}:∀ l:List (Lit × DataW H),Go.Rmp.bulkEntriesW l=Rows.uptoBulkEntries l
 | []=>by simp [Go.Rmp.bulkEntriesW,Rows.uptoBulkEntries]
 | x :: r=>by simp [Go.Rmp.bulkEntriesW,Rows.uptoBulkEntries,bulkEn_eq x,bulkE_eq r]
theorem bulkEn_eq {H:Type}:∀ x:Lit × DataW H,Go.Rmp.bulkEntryW x=Rows.uptoBulkEntry x
 | (l,d)=>by cases l <;> simp [Go.Rmp.bulkEntryW,Rows.uptoBulkEntry,bulk_eq d]
end
theorem bulk_ok {H:Type} {ds:List (DataW H)} (h:Rows.uptoSmall H ds=true):Go.Rmp.bulkAllW ds≤1048576:=by
 rw [bulks_eq];simpa [Rows.uptoSmall] using h
theorem hasS {B:Nat} {t:Go.Rmp.T} (h:Go.Rmp.HasSh B .str t):∃ s,t=.str s∧s.size≤B:=by
 cases h with | str h hB=>exact ⟨_,rfl,hB⟩
theorem hasI {B:Nat} {t:Go.Rmp.T} (h:Go.Rmp.HasSh B (.int .i64) t):∃ n:Int,t=.int .i64 n∧-9223372036854775808≤n∧n<9223372036854775808:=by
 cases h with | int h =>
  rename_i n
  exact ⟨n,rfl,by simp -implicitDefEqProofs only [Lit.wf,IntKind.min,IntKind.max,IntKind.signed,IntKind.bits] at h;simp at h;omega⟩
theorem hasU {B:Nat} {t:Go.Rmp.T} (h:Go.Rmp.HasSh B (.int .u64) t):∃ n:Nat,t=.int .u64 n∧n<18446744073709551616:=by
 cases h with | int h =>
  rename_i n
  simp -implicitDefEqProofs only [Lit.wf,IntKind.min,IntKind.max,IntKind.signed,IntKind.bits] at h
  simp at h
  exact ⟨n.toNat,by congr 1;omega,by omega⟩
theorem hasB8 {B:Nat} {t:Go.Rmp.T} (h:Go.Rmp.HasSh B (.int .u8) t):∃ n:Nat,t=.int .u8 n∧n<256:=by
 cases h with | int h =>
  rename_i n
  simp -implicitDefEqProofs only [Lit.wf,IntKind.min,IntKind.max,IntKind.signed,IntKind.bits] at h
  simp at h
  exact ⟨n.toNat,by congr 1;omega,by omega⟩
end Law
namespace St
open Go.Rmp
theorem map_of {α:Type} {P:α→Prop} (enc:α→List T) (es:List (List T)) (h:∀ c∈es,∃ x,c=enc x∧P x):∃ l:List α,es=l.map enc∧∀ x∈l,P x:=by
 induction es with
 | nil=>exact ⟨[],rfl,by simp⟩
 | cons c es ih =>
  obtain ⟨l,rfl,hl⟩:=ih (fun c hc=>h c (List.mem_cons_of_mem _ hc))
  obtain ⟨x,rfl,hx⟩:=h _ List.mem_cons_self
  exact ⟨x :: l,rfl,fun y hy=>by rcases List.mem_cons.1 hy with rfl | hy;exact hx;exact hl y hy⟩
end St
end Go.Proofs.YtmgldhlcapjdkaaGreat
end

section
namespace Go.Proofs.YtmgldhlcapjdkaaGreat
open Go.ChangeShapes Go.WideShapes Go.ChangeAt Go.RowKit
namespace St
open Go.Rmp
theorem hasOps {t:T} (h:HasSh 1048576 (.sl [.int .i64,.int .u64,.int .u8,.str,.int .i64]) t):∃ (k:SK) (l:List OpW),t=.sl k (l.map eOp)∧l.length≤1048576∧∀ o∈l,OpWOk o∧-9223372036854775808≤o.at_∧o.at_<9223372036854775808:=by
 cases h with
 | nil=>exact ⟨.nil,[],rfl,Nat.zero_le _,by simp⟩
 | sl hl hB h0 h =>
  rename_i es
  obtain ⟨l,rfl,hP⟩:=map_of (P:=fun o:OpW=>OpWOk o∧-9223372036854775808≤o.at_∧o.at_<9223372036854775808) eOp es fun c hc=>by
   have hc1:=h0 c hc
   match c,hc1 with
   | [a,b,c,d,e],_ =>
    obtain ⟨z,rfl,_⟩:=Law.hasI (h _ hc 0 (.int .i64) a rfl rfl)
    obtain ⟨n,rfl,hn⟩:=Law.hasU (h _ hc 1 (.int .u64) b rfl rfl)
    obtain ⟨m,rfl,hm⟩:=Law.hasB8 (h _ hc 2 (.int .u8) c rfl rfl)
    obtain ⟨s,rfl,hs⟩:=Law.hasS (h _ hc 3 .str d rfl rfl)
    obtain ⟨y,rfl,hy⟩:=Law.hasI (h _ hc 4 (.int .i64) e rfl rfl)
    exact ⟨⟨z,n,m,s,y⟩,rfl,⟨hn,hm,hs⟩,hy⟩
  exact ⟨.arg,l,rfl,by simpa using hB,hP⟩
theorem has4 {B:Nat} {t:T} (h:HasSh B (.ag [.int .i64,.int .i64,.int .i64,.int .i64]) t):∃ sh:List Int,sh.length=4∧t=.agg (zC sh):=by
 cases h with
 | ag hl h =>
  rename_i cs
  match cs,hl with
  | [a,b,c,d],_ =>
   obtain ⟨x,rfl,_⟩:=Law.hasI (h 0 (.int .i64) a rfl rfl)
   obtain ⟨y,rfl,_⟩:=Law.hasI (h 1 (.int .i64) b rfl rfl)
   obtain ⟨z,rfl,_⟩:=Law.hasI (h 2 (.int .i64) c rfl rfl)
   obtain ⟨u,rfl,_⟩:=Law.hasI (h 3 (.int .i64) d rfl rfl)
   exact ⟨[x,y,z,u],rfl,rfl⟩
end St
end Go.Proofs.YtmgldhlcapjdkaaGreat
end

section
namespace Go.Proofs.YtmgldhlcapjdkaaGreat
open Go.ChangeShapes Go.WideShapes Go.ChangeAt Go.RowKit
namespace Law
theorem hybridWhole_w (as':List Go.Rmp.T) (hs:Go.Rmp.HasShs 1048576 [.int .i64,.sl [.int .i64,.int .u64,.int .u8,.str,.int .i64],.int .u8,.sl [.int .i64,.int .u64,.int .u8,.str,.int .i64],.sl [.int .i64,.int .u64,.int .u8,.str,.int .i64],.ag [.int .i64,.int .i64,.int .i64,.int .i64]] as'):Go.Rmp.W Ir.env (.call 8 as') [] (fun o _=>o=.val (.bool true)):=by
 cases hs with | cons h1 hs =>
 cases hs with | cons h2 hs =>
 cases hs with | cons h3 hs =>
 cases hs with | cons h4 hs =>
 cases hs with | cons h5 hs =>
 cases hs with | cons h6 hs =>
 cases hs
 obtain ⟨p,rfl,_⟩:=hasI h1
 obtain ⟨k,ops,rfl,n1,n2⟩:=St.hasOps h2
 obtain ⟨b,rfl,hb⟩:=hasB8 h3
 obtain ⟨k',bts,rfl,m1,m2⟩:=St.hasOps h4
 obtain ⟨k'',afs,rfl,l1,l2⟩:=St.hasOps h5
 obtain ⟨sh,h6l,rfl⟩:=St.has4 h6
 exact St.whole8 p k k' k'' ops bts afs b sh hb h6l n2 (by omega) m2 (by omega) l2 (by omega) []
theorem hybridWhole_fn (H:Type):∀ ds:List (DataW H),ds.length=Tryz.f8.params.toList.length→Rows.hybridWholeSpec.fn H ds={ results:=[.lit (.bool true)],args:=ds }:=by
 have hn:Tryz.f8.params.toList.length=6:=by kernel_rfl
 rw [hn]
 intro ds hds
 cases ds with | nil=>simp at hds | cons d0 ds =>
 cases ds with | nil=>simp at hds | cons d1 ds =>
 cases ds with | nil=>simp at hds | cons d2 ds =>
 cases ds with | nil=>simp at hds | cons d3 ds =>
 cases ds with | nil=>simp at hds | cons d4 ds =>
 cases ds with | nil=>simp at hds | cons d5 ds =>
 cases ds with | cons=>simp at hds | nil =>
 rfl
set_option maxRecDepth 100000 in
theorem hybridWhole_lifted (os:Os) (started:os.Started) (H:Type) (enc:TypeId × Value→H) (F:Stop.Interp) :
  ReturnsInHanded {} Tryz.checked os 8 .any ((Rows.OpenSpec.upto Rows.hybridWholeSpec).pre6 enc Tryz.prog Tryz.f8 Rows.hybridWholeUptoRow.domain false) (((Rows.OpenSpec.upto Rows.hybridWholeSpec).at F).post enc Tryz.prog Tryz.f8 false true false false):=by
 refine returnsInHanded_of_cond (C:=Tryz.checked) (s:=Rows.OpenSpec.upto Rows.hybridWholeSpec) (k:=Rows.uptoSmall) rfl own started (by kernel_rfl) Tryz.func8
  (OpenSpec.witness (enc:=enc) (C:=Tryz.checked) (s:=Rows.OpenSpec.upto Rows.hybridWholeSpec) (k:=Rows.uptoSmall) rfl false ⟨#[],#[.int .i64 0,.slice .none 0 0,.int .u8 0,.slice .none 0 0,.slice .none 0 0,.agg #[.int .i64 0,.int .i64 0,.int .i64 0,.int .i64 0]],[]⟩ 8 (by kernel_rfl) (by kernel_rfl) (by kernel_rfl)
   (x:=([.lit (.int .i64 0),.nil,.lit (.int .u8 0),.nil,.nil,.agg [.lit (.int .i64 0),.lit (.int .i64 0),.lit (.int .i64 0),.lit (.int .i64 0)]],[],[])) (by kernel_rfl) rfl (by kernel_rfl)) ?_
 intro W base args ds gs before hval hW _ hk _
 exact Go.Rmp.law_contract (s:=Rows.hybridWholeSpec) (shs:=[.int .i64,.sl [.int .i64,.int .u64,.int .u8,.str,.int .i64],.int .u8,.sl [.int .i64,.int .u64,.int .u8,.str,.int .i64],.sl [.int .i64,.int .u64,.int .u8,.str,.int .i64],.ag [.int .i64,.int .i64,.int .i64,.int .i64]]) (B:=1048576) (tb:=Tryz.f8.resultTypes[0]!) Ir.envOk kids hz (by kernel_rfl) (by intro t ht;exact of_decide_eq_true ((List.all_eq_true.1 (show Tryz.f8.params.toList.all (fun t=>decide (t<Tryz.prog.types.size))=true by kernel_rfl)) t ht)) (by kernel_rfl) (by kernel_rfl) rfl (hybridWhole_fn H) hybridWhole_w base args ds gs before hval hW (bulk_ok hk)
theorem hybridWhole_over:Rows.hybridWholeUptoRow.holds Tryz.pinned (Rows.OpenSpec.upto Rows.hybridWholeSpec) :=
 OpenClaim.holds_of_cond 8 Tryz.f8 rfl rfl rfl rfl rfl rfl rfl ⟨rfl,rfl,rfl,rfl,rfl⟩ rfl rfl rfl rfl rfl (by kernel_rfl) Tryz.func8 (by kernel_rfl)
  (of_decide_eq_true (by kernel_rfl)) (by unfold Func.isWrapper;first | (rw [if_pos (by decide +kernel)];kernel_rfl) | (rw [if_neg (by decide +kernel)];exact ⟨rfl,rfl⟩))
  (fun os started H enc _ F=>hybridWhole_lifted os started H enc F)
theorem hybridWhole_proved:Rows.HybridWholeUptoSaid:=hybridWhole_over
end Law
end Go.Proofs.YtmgldhlcapjdkaaGreat
end
