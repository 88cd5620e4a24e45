/- Part of a proof of a law of this seat: the machine of plain values, its simulation, and the contracts of the functions that the law reaches. Conditions: none beyond the given row. -/
import Derived.Test.YtdcpehdijdllpaaGreatM5
import Derived.Test.YtdcpehdijdllpaaGreatRows
import Derived.WalkKit
import Derived.ProofKit
import Derived.OpenShut
import Derived.JoinedCond
import Derived.ChangeBears
open Int renaming reduceLT → q5, reduceLE → q6, reduceBEq → q7, reduceBNe → q8, reduceEq → q9
open Nat renaming reduceAdd → j1, reduceLeDiff → j2, reduceLT → j3, reduceEqDiff → j4
set_option linter.unusedSimpArgs false
set_option linter.unusedVariables false
set_option linter.unnecessarySimpa false
set_option maxHeartbeats 4000000
section
namespace Go.Proofs.YtdcpehdijdllpaaGreat.St
open Go.Rmp Go.Proofs.YtdcpehdijdllpaaGreat.Ir
set_option maxRecDepth 10000
section
variable {l:List Nat} {now:Int} {H H':af} {o:Out}
theorem rq1 (h:qm l now H o H')(ht:¬a7 now):o=.val (.bC [.int .i64 0,.br,.int .i64 1])∧Ext H H':=by
 rcases h with⟨_,h⟩|⟨h,_⟩|⟨h,_⟩|⟨h,_⟩
 ·exact h
 all_goals exact absurd h ht
theorem rq2 (h:qm l now H o H')(ht:a7 now)(hs:¬eZ l):o=.val (.bC [.int .i64 0,.br,.int .i64 90])∧Ext H H':=by
 rcases h with⟨h,_⟩|⟨_,_,h⟩|⟨_,h,_⟩|⟨_,h,_⟩
 ·exact absurd ht h
 ·exact h
 all_goals exact absurd h hs
theorem rq3 (h:qm l now H o H')(ht:a7 now)(hs:eZ l)(hd:∀g L K,¬vt l now g L K):o=.val (.bC [.int .i64 0,.br,.int .i64 2])∧Ext H H':=by
 rcases h with⟨h,_⟩|⟨_,h,_⟩|⟨_,_,_,h⟩|⟨_,_,g,L,K,p,h,_⟩
 ·exact absurd ht h
 ·exact absurd hs h
 ·exact h
 ·exact absurd h (hd g L K)
theorem rq4 (h:qm l now H o H')(ht:a7 now)(hs:eZ l){g:Nat}{L:List Nm}{K:List Kd}(hd:vt l now g L K):∃p,o=.val (.bC [.int .i64 g,.ptr p 0,.int .i64 0])∧RP H H' p (K.map (nq now L)) L:=by
 rcases h with⟨h,_⟩|⟨_,h,_⟩|⟨_,_,h,_⟩|⟨_,_,g',L',K',p,h,h'⟩
 ·exact absurd ht h
 ·exact absurd hs h
 ·exact absurd hd (h g L K)
 ·have e:=h.1
  rw[hd.1]at e
  cases e
  exact⟨p,h'⟩
end
theorem Ck (k:SK)(l:List Nat)(hb:cT l)(hl:l.length≤8000000)(now:Int)(H:af):W env (.call 16 [.sl k (l.map eB),.int .i64 now]) H (fun o H'=>o=.val (.bool true)∧Ext H H'):=by
 have Jy:∀g L K,pR (l.take (l.length-4))=some (g,L,K)→K.length≤8000000∧L.length≤8000000:=fun g L K h=>by
  have h1:=zg (hb.take _) h
  have h2:(l.take (l.length-4)).length≤l.length:=by rw[List.length_take];omega
  omega
 have en:dQ .ptr .br .br=some true:=rfl
 refine W.bA rfl rfl rfl ?_
 simp -implicitDefEqProofs only[Pm,op,ef,cl,sq,reduceIte,q5,q6,q7,q8,q9,j1,j2,j3,j4,S1]
 refine ae _ _ _ _ _ _ _ _ (zf k l (by omega) _) ?_
 rintro u H1⟨dB,hu⟩
 cases hu
 have dB:Ext H H1:=dB
 simp -implicitDefEqProofs only[op,ef,cl,sq,reduceIte,q5,q6,q7,q8,q9,j1,j2,j3,j4,S1]
 refine ae _ _ _ _ _ _ _ _ (AH .arg l (fun h=>by cases h) hb (by omega) now (fun _=>Jy) _) ?_
 rintro u H2 (⟨ht,hu,jc⟩|⟨ht,hs,hu,jc⟩|⟨ht,hs,hp,hu,jc⟩|⟨ht,hs,g,L,K,hp,⟨lG,b,F,hu,pv⟩|⟨fI,hu,jc⟩⟩)
 ·cases hu
  simp -implicitDefEqProofs only[op,ef,cl,sq,reduceIte,q5,q6,q7,q8,q9,j1,j2,j3,j4,S1]
  refine ae _ _ _ _ _ _ _ _ (ph k l hb hl now _) ?_
  intro u H3 hq
  obtain⟨hu,lC⟩:=rq1 hq ht
  cases hu
  simp -implicitDefEqProofs only[op,ef,cl,sq,reduceIte,q5,q6,q7,q8,q9,j1,j2,j3,j4,S1,en]
  exact dB.trans (Ext.trans jc lC)
 ·cases hu
  simp -implicitDefEqProofs only[op,ef,cl,sq,reduceIte,q5,q6,q7,q8,q9,j1,j2,j3,j4,S1]
  refine ae _ _ _ _ _ _ _ _ (ph k l hb hl now _) ?_
  intro u H3 hq
  obtain⟨hu,lC⟩:=rq2 hq ht hs
  cases hu
  simp -implicitDefEqProofs only[op,ef,cl,sq,reduceIte,q5,q6,q7,q8,q9,j1,j2,j3,j4,S1,en]
  exact dB.trans (Ext.trans jc lC)
 ·cases hu
  simp -implicitDefEqProofs only[op,ef,cl,sq,reduceIte,q5,q6,q7,q8,q9,j1,j2,j3,j4,S1]
  refine ae _ _ _ _ _ _ _ _ (ph k l hb hl now _) ?_
  intro u H3 hq
  obtain⟨hu,lC⟩:=rq3 hq ht hs fun g L K h=>by
   have:=((xd hb hs (by omega)).1 h).1
   rw[hp]at this;cases this
  cases hu
  simp -implicitDefEqProofs only[op,ef,cl,sq,reduceIte,q5,q6,q7,q8,q9,j1,j2,j3,j4,S1,en]
  exact dB.trans (Ext.trans jc lC)
 ·cases hu
  have hd:vt l now g L K:=(xd hb hs (by omega)).2 ⟨hp,lG⟩
  obtain⟨s1,s2⟩:=Jy g L K hp
  simp -implicitDefEqProofs only[op,ef,cl,sq,reduceIte,q5,q6,q7,q8,q9,j1,j2,j3,j4,S1]
  refine ae _ _ _ _ _ _ _ _ (ph k l hb hl now _) ?_
  intro u H3 hq
  obtain⟨p,hu,tK,tL,G,rc,av,hG⟩:=rq4 hq ht hs hd
  cases hu
  have jc:Ext H1 H2:=dn pv.hO
  have lC:Ext H2 H3:=dn av
  have a3:=pv.at_.ext lC
  have e1:dQ .ptr (.ptr b.s 0) .br=some false:=rfl
  have e2:dQ .ptr (.ptr p 0) .br=some false:=rfl
  have hlen:(K.map (nq now L)).length≤8000000:=by rw[List.length_map];exact s1
  simp -implicitDefEqProofs only[op,ef,cl,sq,reduceIte,q5,q6,q7,q8,q9,j1,j2,j3,j4,S1,e1,e2]
  refine ae _ _ _ _ _ _ _ _ (Ia a3 s1) ?_
  rintro u H4⟨jn,k4,N,_,hN,_,hu⟩
  cases hu
  have jn:Ext H3 H4:=jn
  have eN:=hN.uniq lG.names
  subst eN
  rw[←lG.enc]
  simp -implicitDefEqProofs only[op,ef,cl,sq,reduceIte,q5,q6,q7,q8,q9,j1,j2,j3,j4,S1,e1,e2]
  refine ae _ _ _ _ _ _ _ _ (B5 (rc.ext jn) hlen) ?_
  rintro u H5⟨fM,k5,_,hu⟩
  cases hu
  have fM:Ext H4 H5:=fM
  simp -implicitDefEqProofs only[op,ef,cl,sq,reduceIte,q5,q6,q7,q8,q9,j1,j2,j3,j4,S1,e1,e2]
  refine ae _ _ _ _ _ _ _ _ (RM k4 k5 ((K.map (nq now L)).map ak) (K.map (nq now L)) true (by rw[List.length_map]) (by rw[List.length_map];omega) (fun i x y hx hy=>by
   rw[List.getElem?_map,hy]at hx
   cases hx
   exact⟨rfl,rfl,rfl,rfl,fun _=>rfl⟩) (fun x hx=>by
   obtain⟨z,hz,rfl⟩:=List.mem_map.1 hx
   have:=(rc.ko z hz).2
   show z.keys.length<_
   omega) _) ?_
  rintro u H6⟨hu,jQ⟩
  cases hu
  have jQ:Ext H5 H6:=jQ
  simp -implicitDefEqProofs only[op,ef,cl,sq,reduceIte,q5,q6,q7,q8,q9,j1,j2,j3,j4,S1,e1,e2]
  refine ae _ _ _ _ _ _ _ _ (wG (((a3.ext jn).ext fM).ext jQ) s1 lG.lv) ?_
  rintro u H7⟨nn,k7,ls,_,hL,_,hu⟩
  cases hu
  have nn:Ext H6 H7:=nn
  have eL:=hL.uniq lG.Rh
  subst eL
  rw[lG.adz]
  simp -implicitDefEqProofs only[op,ef,cl,sq,reduceIte,q5,q6,q7,q8,q9,j1,j2,j3,j4,S1,e1,e2]
  refine ae _ _ _ _ _ _ _ _ (yS ((((rc.ext jn).ext fM).ext jQ).ext nn) s2) ?_
  rintro u H8⟨nE,k8,_,hu⟩
  cases hu
  have nE:Ext H7 H8:=nE
  simp -implicitDefEqProofs only[op,ef,cl,sq,reduceIte,q5,q6,q7,q8,q9,j1,j2,j3,j4,S1,e1,e2]
  refine ae _ _ _ _ _ _ _ _ (RL k7 k8 L (by omega) _) ?_
  rintro u H9⟨hu,rfl⟩
  cases hu
  simp -implicitDefEqProofs only[op,ef,cl,sq,reduceIte,q5,q6,q7,q8,q9,j1,j2,j3,j4,S1,e1,e2]
  exact dB.trans (jc.trans (lC.trans (jn.trans (fM.trans (jQ.trans (nn.trans nE))))))
 ·cases hu
  simp -implicitDefEqProofs only[op,ef,cl,sq,reduceIte,q5,q6,q7,q8,q9,j1,j2,j3,j4,S1]
  refine ae _ _ _ _ _ _ _ _ (ph k l hb hl now _) ?_
  intro u H3 hq
  obtain⟨hu,lC⟩:=rq3 hq ht hs fun g' L' K' h=>by
   have h1:=(xd hb hs (by omega)).1 h
   have e:=h1.1
   rw[hp]at e
   cases e
   exact fI h1.2
  cases hu
  simp -implicitDefEqProofs only[op,ef,cl,sq,reduceIte,q5,q6,q7,q8,q9,j1,j2,j3,j4,S1,en]
  exact dB.trans (Ext.trans jc lC)
theorem Jd (c:Nat)(l:List Nat)(hb:cT l)(hl:l.length≤8000000)(now:Int){H:af}(hc:H[c]?=some (.cells (aP eB l))):W env (.call 16 [.aC c 0 l.length 1,.int .i64 now]) H (fun o _=>o=.val (.bool true)):=by
 refine W.Cs 0 rfl hc ?_
 have h1:0+l.length*1≤(aP eB l).length:=by rw[dy (n:=1) fun _=>rfl];omega
 have e:[T.aC c 0 l.length 1,.int .i64 now].map (zx c (aP eB l))=[.sl .arg (l.map eB),.int .i64 now]:=by
  simp -implicitDefEqProofs only[List.map_cons,List.map_nil,zx,Go.Rmp.xw,h1,and_self,if_true,vV (n:=1) (enc:=eB) (fun _=>rfl)]
 rw[e]
 exact W.use (Ck .arg l hb hl now _) fun o H' h=>h.1
theorem Sj (k:SK)(l:List Nat)(hb:cT l)(hl:l.length≤1048576)(now:Int)(H:af):W env (.call 4 [.sl k (l.map eB),.int .i64 now]) H (fun o _=>o=.val (.bool true)):=by
 refine W.bA rfl rfl rfl ?_
 simp -implicitDefEqProofs only[ZX,op,ef,cl,sq,reduceIte,q5,q6,q7,q8,q9,j1,j2,j3,j4,S1]
 refine ae _ _ _ _ _ _ _ _ (RN _) ?_
 rintro u H1⟨hu,dB⟩
 cases hu
 simp -implicitDefEqProofs only[op,ef,cl,sq,reduceIte,q5,q6,q7,q8,q9,j1,j2,j3,j4,S1]
 refine ae _ _ _ _ _ _ _ _ (zf k l (by omega) _) ?_
 rintro u H2⟨jc,hu⟩
 cases hu
 simp -implicitDefEqProofs only[op,ef,cl,sq,reduceIte,q5,q6,q7,q8,q9,j1,j2,j3,j4,S1]
 refine ae _ _ _ _ _ _ _ _ (Is .arg l hb (by omega) _) ?_
 rintro u H3⟨lC,hu⟩
 cases hu
 simp -implicitDefEqProofs only[op,ef,cl,sq,reduceIte,q5,q6,q7,q8,q9,j1,j2,j3,j4,S1]
 refine ae _ _ _ _ _ _ _ _ (IZ k l (by omega) _) ?_
 rintro u H4⟨jn,c,hc,hu,d4⟩
 cases hu
 have e4:=nm4 (dF l)
 have q1:=s24 (dF l)
 have q2:=s16 (dF l)
 have q3:=s08 (dF l)
 have q4:=sS (dF l)
 obtain⟨t',H5,ha,hm,cW⟩:=mU (enc:=eB) (n:=1) (n0:=0) (fun _=>rfl) (H:=H4) (t:=.aC c 0 l.length 1) (l:=l) (bytes:=1) (cd 4 (dF l)) (.inr ⟨c,rfl,d4,Nat.zero_le _⟩) (Nat.zero_le _) (by intro h;have:=congrArg List.length h;rw[aF]at this;cases this) (ga (by rw[aF];omega))
 rw[e4]at ha
 have Oj:(l++cd 4 (dF l)).length=l.length+4:=by rw[List.length_append,aF]
 obtain⟨c5,rfl,d5⟩:∃c5,t'=.aC c5 0 (l++cd 4 (dF l)).length 1∧H5[c5]?=some (.cells (aP eB (l++cd 4 (dF l)))):=by
  rcases hm with⟨h,_⟩|⟨c5,h1,h2,_⟩
  ·have:=congrArg List.length h;rw[Oj]at this;cases this
  ·exact⟨c5,h1,h2⟩
 have Gs:xv (.aC c 0 l.length 1)=.aC c 0 l.length 1:=rfl
 simp -implicitDefEqProofs only[op,ef,cl,sq,reduceIte,q5,q6,q7,q8,q9,j1,j2,j3,j4,S1,q1,q2,q3,q4,Gs,ha]
 refine ae _ _ _ _ _ _ _ _ (Ck k l hb (by omega) now _) ?_
 rintro u H6⟨hu,jQ⟩
 cases hu
 have jQ:Ext H5 H6:=jQ
 simp -implicitDefEqProofs only[op,ef,cl,sq,reduceIte,q5,q6,q7,q8,q9,j1,j2,j3,j4,S1]
 refine ae _ _ _ _ _ _ _ _ (Jd c5 (l++cd 4 (dF l)) (hb.app (fc _ _)) (by omega) now (jQ.get d5)) ?_
 intro u H7 hu
 cases hu
 simp -implicitDefEqProofs only[op,ef,cl,sq,reduceIte,q5,q6,q7,q8,q9,j1,j2,j3,j4,S1]
end Go.Proofs.YtdcpehdijdllpaaGreat.St
end

section
namespace Go.Proofs.YtdcpehdijdllpaaGreat
open Go.ChangeShapes Go.WideShapes Go.ChangeAt Go.RowKit
namespace Law
theorem own:ownKnob Tryz.prog.godebug=none:=by kernel_rfl
theorem kids:Kids Tryz.prog (·<Tryz.prog.types.size):=kids_rows (by kernel_rfl) (by kernel_rfl)
noncomputable def hzB:Bool:=(List.range Tryz.prog.types.size).all fun t=>match Tryz.prog.underlying t with
 | some (.slice e)=>decide (0<Tryz.prog.cellsOf e)
 | _=>true
theorem Sk:hzB=true:=by kernel_rfl
theorem hz:∀t e,t<Tryz.prog.types.size→Tryz.prog.underlying t=some (.slice e)→0<Tryz.prog.cellsOf e:=fun t e ht h=>by
 have:=(List.all_eq_true.1 Sk) t (List.mem_range.2 ht)
 rw[h]at this
 simpa using this
mutual
theorem rf {H:Type}:∀d:DataW H,Go.Rmp.b8 d=Rows.uptoBulk d
 | .lit l=>by cases l<;>simp[Go.Rmp.b8,Rows.uptoBulk]
 | .nil=>by simp[Go.Rmp.b8,Rows.uptoBulk]
 | .ptr d=>by simp[Go.Rmp.b8,Rows.uptoBulk,rf d]
 | .slice elems spare=>by simp[Go.Rmp.b8,Rows.uptoBulk,mI elems,mI spare]
 | .agg parts=>by simp[Go.Rmp.b8,Rows.uptoBulk,mI parts]
 | .iface _ d=>by simp[Go.Rmp.b8,Rows.uptoBulk,rf d]
 | .map entries=>by simp[Go.Rmp.b8,Rows.uptoBulk,zh entries]
 | .held _=>by simp[Go.Rmp.b8,Rows.uptoBulk]
theorem mI {H:Type}:∀l:List (DataW H),Go.Rmp.bS l=Rows.uptoBulkAll l
 | []=>by simp[Go.Rmp.bS,Rows.uptoBulkAll]
 | d :: r=>by simp[Go.Rmp.bS,Rows.uptoBulkAll,rf d,mI r]
theorem zh {H:Type}:∀l:List (Lit×DataW H),Go.Rmp.fW l=Rows.uptoBulkEntries l
 | []=>by simp[Go.Rmp.fW,Rows.uptoBulkEntries]
 | x :: r=>by simp[Go.Rmp.fW,Rows.uptoBulkEntries,DJ x,zh r]
theorem DJ {H:Type}:∀x:Lit×DataW H,Go.Rmp.nT x=Rows.uptoBulkEntry x
 | (l,d)=>by cases l<;>simp[Go.Rmp.nT,Rows.uptoBulkEntry,rf d]
end
theorem MB {H:Type}{ds:List (DataW H)}(h:Rows.uptoSmall H ds=true):Go.Rmp.bS ds≤1048576:=by
 rw[mI];simpa[Rows.uptoSmall]using h
theorem aeD {B:Nat}{t:Go.Rmp.T}(h:Go.Rmp.fV B (.int .i64) t):∃n:Int,t=.int .i64 n∧-9223372036854775808≤n∧n<9223372036854775808:=by
 cases h with|int h =>
  rename_i n
  exact⟨n,rfl,by simp -implicitDefEqProofs only[Lit.wf,IntKind.min,IntKind.max,IntKind.signed,IntKind.bits]at h;simp at h;omega⟩
theorem X4 {B:Nat}{t:Go.Rmp.T}(h:Go.Rmp.fV B (.int .u8) t):∃n:Nat,t=.int .u8 n∧n<256:=by
 cases h with|int h =>
  rename_i n
  simp -implicitDefEqProofs only[Lit.wf,IntKind.min,IntKind.max,IntKind.signed,IntKind.bits]at h
  simp at h
  exact⟨n.toNat,by congr 1;omega,by omega⟩
end Law
namespace St
open Go.Rmp
theorem Sl {α:Type}{P:α→Prop}(enc:α→List T)(es:List (List T))(h:∀c∈es,∃x,c=enc x∧P x):∃l:List α,es=l.map enc∧∀x∈l,P x:=by
 induction es with
 | nil=>exact⟨[],rfl,by simp⟩
 | cons c es ih =>
  obtain⟨l,rfl,hl⟩:=ih (fun c hc=>h c (List.mem_cons_of_mem _ hc))
  obtain⟨x,rfl,hx⟩:=h _ List.mem_cons_self
  exact⟨x :: l,rfl,fun y hy=>by rcases List.mem_cons.1 hy with rfl|hy;exact hx;exact hl y hy⟩
theorem Sm {B:Nat}{t:T}(h:fV B (.sl [.int .u8]) t):∃k l,t=.sl k (List.map eB l)∧gI k l∧l.length≤B∧cT l:=by
 cases h with
 | nil=>exact⟨.nil,[],rfl,fun _=>rfl,Nat.zero_le _,fun x hx=>by simp at hx⟩
 | sl hl hB h0 h =>
  rename_i es
  obtain⟨l,rfl,hP⟩:=Sl (P:=fun s:Nat=>s<256) eB es fun c hc=>by
   have lQ:=h0 c hc
   match c,lQ with
   | [a],_=>obtain⟨s,rfl,hs⟩:=Law.X4 (h _ hc 0 (.int .u8) a rfl rfl);exact⟨s,rfl,hs⟩
  exact⟨.arg,l,rfl,fun h=>(by cases h),by simpa using hB,hP⟩
end St
namespace Law
theorem zi (TN:List Go.Rmp.T)(hs:Go.Rmp.nU 1048576 [.sl [.int .u8],.int .i64] TN):Go.Rmp.W Ir.env (.call 4 TN) [] (fun o _=>o=.val (.bool true)):=by
 cases hs with|cons h1 hs =>
 cases hs with|cons h2 hs =>
 cases hs
 obtain⟨k,l,rfl,_,n1,n2⟩:=St.Sm h1
 obtain⟨g,rfl,_,_⟩:=aeD h2
 exact St.Sj k l n2 n1 g []
theorem xe (H:Type):∀ds:List (DataW H),ds.length=Tryz.f4.params.toList.length→Rows.snapReadsSpec.fn H ds={ results:=[.lit (.bool true)],args:=ds }:=by
 have hn:Tryz.f4.params.toList.length=2:=by kernel_rfl
 rw[hn]
 intro ds DV
 cases ds with|nil=>simp at DV|cons d0 ds =>
 cases ds with|nil=>simp at DV|cons d1 ds =>
 cases ds with|cons=>simp at DV|nil =>
 rfl
set_option maxRecDepth 100000 in
theorem qn (os:Os)(started:os.Started)(H:Type)(enc:TypeId×Value→H)(F:Stop.Interp) :
  ReturnsInHanded {} Tryz.checked os 4 .any ((Rows.OpenSpec.upto Rows.snapReadsSpec).pre6 enc Tryz.prog Tryz.f4 Rows.snapReadsUptoRow.domain false) (((Rows.OpenSpec.upto Rows.snapReadsSpec).at F).post enc Tryz.prog Tryz.f4 false true false false):=by
 refine returnsInHanded_of_cond (C:=Tryz.checked) (s:=Rows.OpenSpec.upto Rows.snapReadsSpec) (k:=Rows.uptoSmall) rfl own started (by kernel_rfl) Tryz.func4
  (OpenSpec.witness (enc:=enc) (C:=Tryz.checked) (s:=Rows.OpenSpec.upto Rows.snapReadsSpec) (k:=Rows.uptoSmall) rfl false ⟨#[],#[.slice .none 0 0,.int .i64 0],[]⟩ 8 (by kernel_rfl) (by kernel_rfl) (by kernel_rfl)
   (x:=([.nil,.lit (.int .i64 0)],[],[])) (by kernel_rfl) rfl (by kernel_rfl)) ?_
 intro W base args ds gs before sb hW _ hk _
 exact Go.Rmp.vO (s:=Rows.snapReadsSpec) (D1:=[.sl [.int .u8],.int .i64]) (B:=1048576) (tb:=Tryz.f4.resultTypes[0]!) Ir.Vv kids hz (by kernel_rfl) (by intro t ht;exact of_decide_eq_true ((List.all_eq_true.1 (show Tryz.f4.params.toList.all (fun t=>decide (t<Tryz.prog.types.size))=true by kernel_rfl)) t ht)) (by kernel_rfl) (by kernel_rfl) rfl (xe H) zi base args ds gs before sb hW (MB hk)
theorem th:Rows.snapReadsUptoRow.holds Tryz.pinned (Rows.OpenSpec.upto Rows.snapReadsSpec) :=
 OpenClaim.holds_of_cond 4 Tryz.f4 rfl rfl rfl rfl rfl rfl rfl ⟨rfl,rfl,rfl,rfl,rfl⟩ rfl rfl rfl rfl rfl (by kernel_rfl) Tryz.func4 (by kernel_rfl)
  (of_decide_eq_true (by kernel_rfl)) (by unfold Func.isWrapper;first|(rw[if_pos (by decide +kernel)];kernel_rfl)|(rw[if_neg (by decide +kernel)];exact⟨rfl,rfl⟩))
  (fun os started H enc _ F=>qn os started H enc F)
theorem snapReads_proved:Rows.SnapReadsUptoSaid:=th
end Law
end Go.Proofs.YtdcpehdijdllpaaGreat
end
