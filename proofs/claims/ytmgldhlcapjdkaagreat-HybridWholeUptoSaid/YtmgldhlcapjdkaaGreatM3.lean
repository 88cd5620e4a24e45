/- Part of a proof of a law of this seat: the machine of plain values, its simulation, and the contracts of the functions that the law reaches. Conditions: none beyond the given row. -/
import Derived.Test.YtmgldhlcapjdkaaGreatM2
import Derived.Sort.AssemblyPlain
open Int renaming reduceLT → q4, reduceLE → q5, reduceBEq → j2, reduceBNe → j3, reduceEq → j4
open Nat renaming reduceAdd → j5, reduceLeDiff → j6, reduceLT → j7, reduceEqDiff → j8
set_option linter.unusedSimpArgs false
set_option linter.unusedVariables false
set_option linter.unnecessarySimpa false
set_option maxHeartbeats 4000000
section
namespace Go.Proofs.YtmgldhlcapjdkaaGreat.St
open Go.Rmp Go.Proofs.YtmgldhlcapjdkaaGreat.Ir
set_option maxRecDepth 10000
def wout {α:Type} [DecidableEq α] (l:List α) (x:α):List α:=l.filter fun y=>!decide (y=x)
structure Cut {α:Type} [DecidableEq α] (l arr:List α) (x:α) (i j:Nat):Prop where
 len:arr.length=l.length
 ij:i<j
 keep:arr.take i=wout (l.take j) x
 rest:∀ p,j≤p→arr[p]?=l[p]?
theorem Cut.start {α:Type} [DecidableEq α] {l:List α} {x:α} {i:Nat} (hi:l[i]?=some x) (hno:∀ p a,p<i→l[p]?=some a→a≠x):Cut l l x i (i+1):=by
 refine ⟨rfl,by omega,?_,fun _ _=>rfl⟩
 rw [take_sn hi,wout,List.filter_append]
 have h1:(l.take i).filter (fun y=>!decide (y=x))=l.take i:=List.filter_eq_self.2 fun a ha=>by
  obtain ⟨p,hp,e⟩:=List.getElem_of_mem ha
  have hp':p<i∧p<l.length:=by simp -implicitDefEqProofs only [List.length_take] at hp;omega
  have:=hno p a hp'.1 (by rw [← e];simp [List.getElem?_eq_getElem hp'.2])
  simp [this]
 rw [h1];simp
theorem Cut.same {α:Type} [DecidableEq α] {l arr:List α} {x:α} {i j:Nat} (h:Cut l arr x i j) (hx:l[j]?=some x):Cut l arr x i (j+1):=by
 refine ⟨h.len,by have:=h.ij;omega,?_,fun p hp=>h.rest p (by omega)⟩
 rw [take_sn hx,wout,List.filter_append,h.keep];simp [wout]
theorem Cut.move {α:Type} [DecidableEq α] {l arr:List α} {x y:α} {i j:Nat} (h:Cut l arr x i j) (hy:l[j]?=some y) (hne:y≠x):Cut l (arr.set i y) x (i+1) (j+1):=by
 have hj:=(List.getElem?_eq_some_iff.1 hy).1
 have hi:i<arr.length:=by have:=h.ij;rw [h.len];omega
 refine ⟨by simp [h.len],by have:=h.ij;omega,?_,fun p hp=>by rw [List.getElem?_set_ne (by have:=h.ij;omega)];exact h.rest p (by omega)⟩
 have e1:(arr.set i y).take (i+1)=arr.take i++[y]:=by
  rw [take_sn (x:=y) (by rw [List.getElem?_set_self hi]),List.take_set_of_le (Nat.le_refl _)]
 rw [e1,h.keep,take_sn hy]
 simp [wout,hne]
theorem Cut.end' {α:Type} [DecidableEq α] {l arr:List α} {x:α} {i:Nat} (h:Cut l arr x i l.length):arr.take i=wout l x:=by
 rw [h.keep,List.take_length]
def DelQ {α:Type} [DecidableEq α] (enc:α→List T) (b:Nat) (l:List α) (x:α) (H:Heap):Out→Heap→Prop:=fun o H'=>o=.val (.msl b 0 (wout l x).length 1)∧H'[b]?=some (.cells (msC enc (wout l x)))∧Frm (fun c=>c=b) H H'
theorem wout_no {α:Type} [DecidableEq α] {l:List α} {x:α} (h:x∉l):wout l x=l:=List.filter_eq_self.2 fun a ha=>by
 have:a≠x:=by rintro rfl;exact h ha
 simp [this]
theorem del44 (b:Nat) (l:List Nat) (x:Nat) (c:Nat) (H:Heap) (hc:H[c]?=some (.cells (eU x))) (hb:H[b]?=some (.cells (msC eU l))) (hne:c≠b) (hl:l.length<4611686018427387903) :
  W env (.call 160 [.msl b 0 l.length 1,.fn 161 [.ptr c 0]]) H (DelQ eU b l x H):=by
 refine .shr (fun o H'=>∃ n:Nat,o=.val (.msl b 0 (wout l x).length 1)∧∃ cs,H'[b]?=some (.cells cs)∧cs.take n=msC eU (wout l x)∧Frm (fun c=>c=b) H H') ?_ ?_
 rotate_left
 ·rintro o H' ⟨n,ho,cs,h1,h2,h3⟩
  refine ⟨_,b,cs,n,ho,rfl,h1,rfl,by rw [h2];exact g_eq (glt h1),h3.set (.inl rfl) _⟩
 refine W.fnI rfl rfl rfl ?_
 simp -implicitDefEqProofs only [ir160,op,ef,cl,sq,reduceIte,q4,q5,j2,j3,j4,j5,j6,j7,j8,S1]
 refine callB_of _ _ _ _ _ _ _ _ (idx61 0 _ l x c H hc (.inr ⟨b,rfl,hb,Nat.zero_le _⟩) hl) ?_
 rintro u H1 ⟨rfl,⟨hno,hu⟩ | ⟨i,hu,hi,hmin⟩⟩
 ·cases hu
  have e:((-1:Int)==-1)=true:=rfl
  simp -implicitDefEqProofs only [op,ef,cl,sq,reduceIte,q4,q5,j2,j3,j4,j5,j6,j7,j8,S1]
  rw [wout_no hno]
  exact ⟨l.length,rfl,_,hb,List.take_of_length_le (by rw [msC_len (enc:=eU) (n:=1) (fun _=>rfl)];omega),Frm.refl _ _⟩
 cases hu
 have hil:=(List.getElem?_eq_some_iff.1 hi).1
 have hi1:¬ ((i:Int)=-1):=by omega
 have ws:=wrap_succ (show i<9223372036854775807 by omega)
 have e1:((i:Int)==-1)=false:=by simpa using hi1
 simp -implicitDefEqProofs only [op,ef,cl,sq,reduceIte,q4,q5,j2,j3,j4,j5,j6,j7,j8,S1,e1,ws]
 refine W.loopI (fun (s:Nat × Nat) R H'=>At H' (fun H'=>∃ arr,H'[b]?=some (.cells (msC eU arr))∧Cut l arr x s.1 s.2∧Frm (fun c=>c=b) H1 H')∧R 0=.msl b 0 l.length 1∧R 1=.fn 161 [.ptr c 0]∧R 5=.int .i64 s.1∧R 6=.int .i64 s.2∧s.2≤l.length) (fun s=>l.length-s.2) (i,i+1) ⟨.i ⟨l,hb,Cut.start hi hmin,Frm.refl _ _⟩,rfl,rfl,rfl,rfl,by simp only;omega⟩ ?_
 rintro ⟨i,j⟩ R H2 ⟨⟨arr,hb2,hcut,hfr⟩,h0,h1,h5,h6,hj⟩
 have hij:=hcut.ij
 by_cases hlt:j<l.length
 ·obtain ⟨y,hy⟩:=getP hlt
  have hya:arr[j]?=some y:=by rw [hcut.rest j (Nat.le_refl _)];exact hy
  have g1:iadT 1 j (.msl b 0 l.length 1)=some (.ptr b (j*1)):=by rw [iad_m];simp [hlt]
  have hil':i<l.length:=by simp only at hij;omega
  have g4:iadT 1 i (.msl b 0 l.length 1)=some (.ptr b (i*1)):=by rw [iad_m];simp [hil']
  obtain ⟨z,hz⟩:=getP (l:=arr) (i:=i) (by rw [hcut.len];exact hil')
  have g2:=msC_get (enc:=eU) (n:=1) (fun _=>rfl) hya 0 1 (by decide)
  have g3:=fun Hx=>msC_set (enc:=eU) (n:=1) (y:=y) (fun _=>rfl) hz Hx b (eU y) 0 (by simp [eU]) (by simp [eU])
  simp -implicitDefEqProofs only [Nat.add_zero,List.drop_zero,eU,List.take_succ_cons,List.take_zero] at g2 g3
  have hc2:H2[c]?=some (.cells (eU x)):=hfr.get hc hne
  have ws:=wrap_succ (show j<9223372036854775807 by omega)
  have wi:=wrap_succ (show i<9223372036854775807 by omega)
  simp -implicitDefEqProofs only [op,ef,cl,sq,reduceIte,q4,q5,j2,j3,j4,j5,j6,j7,j8,S1,h0,h1,h5,h6,hlt,natOf_nat,g1,hb2,g2,eU]
  refine b_v _ _ _ _ _ _ _ ?_
  simp -implicitDefEqProofs only [op,ef,cl,sq,reduceIte,q4,q5,j2,j3,j4,j5,j6,j7,j8,S1,h1,callvB]
  refine callB_of _ _ _ _ _ _ _ _ (is45 y x c _ hc2) ?_
  rintro v H3 ⟨hv,rfl⟩
  cases hv
  by_cases e:y=x
  ·simp -implicitDefEqProofs only [op,ef,cl,sq,reduceIte,q4,q5,j2,j3,j4,j5,j6,j7,j8,S1,h0,h1,h5,h6,e,ws]
   exact ⟨(i,j+1),by simp only;omega,.i ⟨arr,hb2,hcut.same (e ▸ hy),hfr⟩,rfl,rfl,by simp only;omega⟩
  ·simp -implicitDefEqProofs only [op,ef,cl,sq,reduceIte,q4,q5,j2,j3,j4,j5,j6,j7,j8,S1,h0,h1,h5,h6,e,natOf_nat,g4,hb2,g3,ws,wi]
   exact ⟨(i+1,j+1),by simp only;omega,.i ⟨_,g_eq (glt hb2),hcut.move hy e,hfr.set (.inl rfl) _⟩,rfl,rfl,by simp only;omega⟩
 ·have hjl:j=l.length:=by simp only at hj;omega
  subst hjl
  have hil':i<l.length:=by simpa using hij
  have hle:i≤l.length:=by omega
  have e2:¬ (i=l.length):=by omega
  have hcl:(msC eU arr).length=l.length:=by rw [msC_len (enc:=eU) (n:=1) (fun _=>rfl),hcut.len];omega
  have e3:i*1+(l.length-i)*1≤(msC eU arr).length:=by rw [hcl];omega
  simp -implicitDefEqProofs only [op,ef,cl,sq,reduceIte,q4,q5,j2,j3,j4,j5,j6,j7,j8,S1,h0,h1,h5,h6,hlt,natOf_nat,Nat.le_refl,hle,e2,and_self,clrV_msl,hb2,clrB,e3]
  have hw:=hcut.end'
  have hwl:(wout l x).length=i:=by rw [← hw,List.length_take,hcut.len];omega
  have htk:∀ m:List T,(((msC eU arr).take (i*1))++m).take (i*1)=msC eU (wout l x):=fun m=>by
   rw [List.take_append_of_le_length (by rw [List.length_take,hcl];omega),List.take_take,Nat.min_self,← hw,msC_take (n:=1) (fun _=>rfl)]
  by_cases hi0:i=0
  ·subst hi0
   simp -implicitDefEqProofs only [op,ef,cl,sq,reduceIte,q4,q5,j2,j3,j4,j5,j6,j7,j8,S1,h0,h5,natOf_nat,hle,Nat.zero_le,Nat.le_refl,and_self]
   refine ⟨0*1,by rw [hwl],_,g_eq (glt hb2),?_,hfr.set (.inl rfl) _⟩
   rw [List.append_assoc];exact htk _
  ·have h0i:¬ (0=i):=fun e=>hi0 e.symm
   simp -implicitDefEqProofs only [op,ef,cl,sq,reduceIte,q4,q5,j2,j3,j4,j5,j6,j7,j8,S1,h0,h5,natOf_nat,h0i,hle,Nat.zero_le,Nat.le_refl,and_self]
   refine ⟨i*1,by rw [hwl];simp,_,g_eq (glt hb2),?_,hfr.set (.inl rfl) _⟩
   rw [List.append_assoc];exact htk _
theorem del46 (b:Nat) (l:List ByteArray) (x:ByteArray) (c:Nat) (H:Heap) (hc:H[c]?=some (.cells (eS x))) (hb:H[b]?=some (.cells (msC eS l))) (hne:c≠b) (hl:l.length<4611686018427387903) :
  W env (.call 162 [.msl b 0 l.length 1,.fn 163 [.ptr c 0]]) H (DelQ eS b l x H):=by
 refine .shr (fun o H'=>∃ n:Nat,o=.val (.msl b 0 (wout l x).length 1)∧∃ cs,H'[b]?=some (.cells cs)∧cs.take n=msC eS (wout l x)∧Frm (fun c=>c=b) H H') ?_ ?_
 rotate_left
 ·rintro o H' ⟨n,ho,cs,h1,h2,h3⟩
  refine ⟨_,b,cs,n,ho,rfl,h1,rfl,by rw [h2];exact g_eq (glt h1),h3.set (.inl rfl) _⟩
 refine W.fnI rfl rfl rfl ?_
 simp -implicitDefEqProofs only [ir162,op,ef,cl,sq,reduceIte,q4,q5,j2,j3,j4,j5,j6,j7,j8,S1]
 refine callB_of _ _ _ _ _ _ _ _ (idx62 0 _ l x c H hc (.inr ⟨b,rfl,hb,Nat.zero_le _⟩) hl) ?_
 rintro u H1 ⟨rfl,⟨hno,hu⟩ | ⟨i,hu,hi,hmin⟩⟩
 ·cases hu
  have e:((-1:Int)==-1)=true:=rfl
  simp -implicitDefEqProofs only [op,ef,cl,sq,reduceIte,q4,q5,j2,j3,j4,j5,j6,j7,j8,S1]
  rw [wout_no hno]
  exact ⟨l.length,rfl,_,hb,List.take_of_length_le (by rw [msC_len (enc:=eS) (n:=1) (fun _=>rfl)];omega),Frm.refl _ _⟩
 cases hu
 have hil:=(List.getElem?_eq_some_iff.1 hi).1
 have hi1:¬ ((i:Int)=-1):=by omega
 have ws:=wrap_succ (show i<9223372036854775807 by omega)
 have e1:((i:Int)==-1)=false:=by simpa using hi1
 simp -implicitDefEqProofs only [op,ef,cl,sq,reduceIte,q4,q5,j2,j3,j4,j5,j6,j7,j8,S1,e1,ws]
 refine W.loopI (fun (s:Nat × Nat) R H'=>At H' (fun H'=>∃ arr,H'[b]?=some (.cells (msC eS arr))∧Cut l arr x s.1 s.2∧Frm (fun c=>c=b) H1 H')∧R 0=.msl b 0 l.length 1∧R 1=.fn 163 [.ptr c 0]∧R 5=.int .i64 s.1∧R 6=.int .i64 s.2∧s.2≤l.length) (fun s=>l.length-s.2) (i,i+1) ⟨.i ⟨l,hb,Cut.start hi hmin,Frm.refl _ _⟩,rfl,rfl,rfl,rfl,by simp only;omega⟩ ?_
 rintro ⟨i,j⟩ R H2 ⟨⟨arr,hb2,hcut,hfr⟩,h0,h1,h5,h6,hj⟩
 have hij:=hcut.ij
 by_cases hlt:j<l.length
 ·obtain ⟨y,hy⟩:=getP hlt
  have hya:arr[j]?=some y:=by rw [hcut.rest j (Nat.le_refl _)];exact hy
  have g1:iadT 1 j (.msl b 0 l.length 1)=some (.ptr b (j*1)):=by rw [iad_m];simp [hlt]
  have hil':i<l.length:=by simp only at hij;omega
  have g4:iadT 1 i (.msl b 0 l.length 1)=some (.ptr b (i*1)):=by rw [iad_m];simp [hil']
  obtain ⟨z,hz⟩:=getP (l:=arr) (i:=i) (by rw [hcut.len];exact hil')
  have g2:=msC_get (enc:=eS) (n:=1) (fun _=>rfl) hya 0 1 (by decide)
  have g3:=fun Hx=>msC_set (enc:=eS) (n:=1) (y:=y) (fun _=>rfl) hz Hx b (eS y) 0 (by simp [eS]) (by simp [eS])
  simp -implicitDefEqProofs only [Nat.add_zero,List.drop_zero,eS,List.take_succ_cons,List.take_zero] at g2 g3
  have hc2:H2[c]?=some (.cells (eS x)):=hfr.get hc hne
  have ws:=wrap_succ (show j<9223372036854775807 by omega)
  have wi:=wrap_succ (show i<9223372036854775807 by omega)
  simp -implicitDefEqProofs only [op,ef,cl,sq,reduceIte,q4,q5,j2,j3,j4,j5,j6,j7,j8,S1,h0,h1,h5,h6,hlt,natOf_nat,g1,hb2,g2,eS]
  refine b_v _ _ _ _ _ _ _ ?_
  simp -implicitDefEqProofs only [op,ef,cl,sq,reduceIte,q4,q5,j2,j3,j4,j5,j6,j7,j8,S1,h1,callvB]
  refine callB_of _ _ _ _ _ _ _ _ (is47 y x c _ hc2) ?_
  rintro v H3 ⟨hv,rfl⟩
  cases hv
  by_cases e:y=x
  ·simp -implicitDefEqProofs only [op,ef,cl,sq,reduceIte,q4,q5,j2,j3,j4,j5,j6,j7,j8,S1,h0,h1,h5,h6,e,ws]
   exact ⟨(i,j+1),by simp only;omega,.i ⟨arr,hb2,hcut.same (e ▸ hy),hfr⟩,rfl,rfl,by simp only;omega⟩
  ·simp -implicitDefEqProofs only [op,ef,cl,sq,reduceIte,q4,q5,j2,j3,j4,j5,j6,j7,j8,S1,h0,h1,h5,h6,e,natOf_nat,g4,hb2,g3,ws,wi]
   exact ⟨(i+1,j+1),by simp only;omega,.i ⟨_,g_eq (glt hb2),hcut.move hy e,hfr.set (.inl rfl) _⟩,rfl,rfl,by simp only;omega⟩
 ·have hjl:j=l.length:=by simp only at hj;omega
  subst hjl
  have hil':i<l.length:=by simpa using hij
  have hle:i≤l.length:=by omega
  have e2:¬ (i=l.length):=by omega
  have hcl:(msC eS arr).length=l.length:=by rw [msC_len (enc:=eS) (n:=1) (fun _=>rfl),hcut.len];omega
  have e3:i*1+(l.length-i)*1≤(msC eS arr).length:=by rw [hcl];omega
  simp -implicitDefEqProofs only [op,ef,cl,sq,reduceIte,q4,q5,j2,j3,j4,j5,j6,j7,j8,S1,h0,h1,h5,h6,hlt,natOf_nat,Nat.le_refl,hle,e2,and_self,clrV_msl,hb2,clrB,e3]
  have hw:=hcut.end'
  have hwl:(wout l x).length=i:=by rw [← hw,List.length_take,hcut.len];omega
  have htk:∀ m:List T,(((msC eS arr).take (i*1))++m).take (i*1)=msC eS (wout l x):=fun m=>by
   rw [List.take_append_of_le_length (by rw [List.length_take,hcl];omega),List.take_take,Nat.min_self,← hw,msC_take (n:=1) (fun _=>rfl)]
  by_cases hi0:i=0
  ·subst hi0
   simp -implicitDefEqProofs only [op,ef,cl,sq,reduceIte,q4,q5,j2,j3,j4,j5,j6,j7,j8,S1,h0,h5,natOf_nat,hle,Nat.zero_le,Nat.le_refl,and_self]
   refine ⟨0*1,by rw [hwl],_,g_eq (glt hb2),?_,hfr.set (.inl rfl) _⟩
   rw [List.append_assoc];exact htk _
  ·have h0i:¬ (0=i):=fun e=>hi0 e.symm
   simp -implicitDefEqProofs only [op,ef,cl,sq,reduceIte,q4,q5,j2,j3,j4,j5,j6,j7,j8,S1,h0,h5,natOf_nat,h0i,hle,Nat.zero_le,Nat.le_refl,and_self]
   refine ⟨i*1,by rw [hwl];simp,_,g_eq (glt hb2),?_,hfr.set (.inl rfl) _⟩
   rw [List.append_assoc];exact htk _
theorem wo32 (b:Nat) (l:List Nat) (x:Nat) (H:Heap) (hb:H[b]?=some (.cells (msC eU l))) (hl:l.length<4611686018427387903):W env (.call 120 [.msl b 0 l.length 1,(.int .u64 x)]) H (DelQ eU b l x H):=by
 refine W.fnI rfl rfl rfl ?_
 have hlb:=glt hb
 simp -implicitDefEqProofs only [ir120,op,ef,cl,sq,reduceIte,q4,q5,j2,j3,j4,j5,j6,j7,j8,S1]
 refine callB_of _ _ _ _ _ _ _ _ (del44 b l x H.length _ (by rw [g_tail rfl];rfl) (by rw [g_app hlb];exact hb) (by omega) hl) ?_
 rintro u H1 ⟨hu,h1,h2⟩
 cases hu
 simp -implicitDefEqProofs only [op,ef,cl,sq,reduceIte,q4,q5,j2,j3,j4,j5,j6,j7,j8,S1]
 exact ⟨rfl,h1,(ext_frm (Ext.rfl'.app _)).trans h2 fun c h=>.inl h⟩
theorem wo33 (b:Nat) (l:List ByteArray) (x:ByteArray) (H:Heap) (hb:H[b]?=some (.cells (msC eS l))) (hl:l.length<4611686018427387903):W env (.call 121 [.msl b 0 l.length 1,(.str x)]) H (DelQ eS b l x H):=by
 refine W.fnI rfl rfl rfl ?_
 have hlb:=glt hb
 simp -implicitDefEqProofs only [ir121,op,ef,cl,sq,reduceIte,q4,q5,j2,j3,j4,j5,j6,j7,j8,S1]
 refine callB_of _ _ _ _ _ _ _ _ (del46 b l x H.length _ (by rw [g_tail rfl];rfl) (by rw [g_app hlb];exact hb) (by omega) hl) ?_
 rintro u H1 ⟨hu,h1,h2⟩
 cases hu
 simp -implicitDefEqProofs only [op,ef,cl,sq,reduceIte,q4,q5,j2,j3,j4,j5,j6,j7,j8,S1]
 exact ⟨rfl,h1,(ext_frm (Ext.rfl'.app _)).trans h2 fun c h=>.inl h⟩
theorem ins60 (t:T) (l:List Nat) (i x bv:Nat) (H:Heap) (hm:Mut eU 1 0 H t l) (hv:H[bv]?=some (.cells (eU x))) (hne:∀ off len n,t≠.msl bv off len n) (hi:i≤l.length) (hl:l.length≤16777215) :
  W env (.call 136 [t,.int .i64 i,.msl bv 0 1 1]) H (InsQ eU 1 0 H t (l.take i++x :: l.drop i)):=by
 rcases hm with ⟨rfl,rfl⟩ | ⟨b,rfl,hb,hbn⟩
 ·have hi0:i=0:=by simpa using hi
  subst hi0
  exact ins_nil (f:=136) (bytes:=8) (fr:=174) (enc:=eU) (fun _=>rfl) (by decide) 0 rfl 0 bv x H (Nat.zero_le _) hv (roomS (by omega) (by omega))
 ·exact ins_msl (f:=136) (bytes:=8) (fr:=174) (enc:=eU) (fun _=>rfl) (by decide) 0 rfl 0 bv b i x l H (Nat.zero_le _) hv hb hbn (fun h=>hne 0 l.length 1 (by rw [h])) hi (by omega) (roomS (by omega) (by omega))
section
variable {α β γ:Type} [DecidableEq α]
theorem mlook_map (f:β→γ) (es:List (α × β)) (k:α):mlook (es.map fun e=>(e.1,f e.2)) k=(mlook es k).map f:=by
 induction es with
 | nil=>rfl
 | cons e es ih=>simp -implicitDefEqProofs only [List.map_cons,mlook_cons,ih];split <;> rfl
theorem mput_map (f:β→γ) (es:List (α × β)) (k:α) (v:β):mput (es.map fun e=>(e.1,f e.2)) k (f v)=(mput es k v).map fun e=>(e.1,f e.2):=by
 induction es with
 | nil=>rfl
 | cons e es ih=>simp -implicitDefEqProofs only [List.map_cons,mput_cons,ih];split <;> simp
theorem mlook_mem {es:List (α × β)} {k:α} {v:β} (h:mlook es k=some v):(k,v)∈es:=by
 induction es with
 | nil=>cases h
 | cons e es ih =>
  rw [mlook_cons] at h
  split at h
  ·rename_i hk;cases h;subst hk;exact List.mem_cons_self
  ·exact List.mem_cons_of_mem _ (ih h)
theorem mlook_none {es:List (α × β)} {k:α}:mlook es k=none↔k∉es.map (·.1):=by
 induction es with
 | nil=>simp [mlook_nil]
 | cons e es ih =>
  rw [mlook_cons]
  by_cases hk:k=e.1
  ·simp [hk]
  ·simp -implicitDefEqProofs only [hk,if_false,ih,List.map_cons,List.mem_cons,false_or]
theorem mput_keys (es:List (α × β)) (k:α) (v:β):(mput es k v).map (·.1)=if k∈es.map (·.1) then es.map (·.1) else es.map (·.1)++[k]:=by
 induction es with
 | nil=>rfl
 | cons e es ih =>
  rw [mput_cons]
  by_cases hk:k=e.1
  ·simp [hk]
  ·simp -implicitDefEqProofs only [hk,if_false,List.map_cons,ih,List.mem_cons,false_or]
   split <;> simp
theorem mput_nodup {es:List (α × β)} (h:(es.map (·.1)).Nodup) (k:α) (v:β):((mput es k v).map (·.1)).Nodup:=by
 rw [mput_keys];split
 ·exact h
 ·rename_i hk;rw [List.nodup_append];exact ⟨h,by simp,fun a ha b hb=>by simp at hb;subst hb;rintro rfl;exact hk ha⟩
theorem mdel_cons (e:α × T) (es:List (α × T)) (k:α):mdel (e :: es) k=if k=e.1 then es else e :: mdel es k:=by
 unfold mdel
 rw [List.findIdx?_cons]
 by_cases hk:k=e.1
 ·simp [hk]
 ·simp -implicitDefEqProofs only [hk,decide_false,if_false,Bool.false_eq_true]
  cases List.findIdx? (fun e=>decide (k=e.1)) es <;> simp
theorem mdel_look {es:List (α × T)} (h:(es.map (·.1)).Nodup) (k k':α):mlook (mdel es k) k'=if k'=k then none else mlook es k':=by
 induction es with
 | nil=>simp [mdel,mlook_nil]
 | cons e es ih =>
  rw [List.map_cons,List.nodup_cons] at h
  rw [mdel_cons]
  by_cases hk:k=e.1
  ·subst hk
   by_cases hk':k'=e.1
   ·subst hk';simp -implicitDefEqProofs only [if_true];exact mlook_none.2 h.1
   ·simp [mlook_cons,hk']
  ·simp -implicitDefEqProofs only [hk,if_false,mlook_cons,ih h.2]
   by_cases hk':k'=e.1
   ·subst hk';simp [Ne.symm hk]
   ·simp [hk']
theorem mdel_nodup {es:List (α × T)} (h:(es.map (·.1)).Nodup) (k:α):((mdel es k).map (·.1)).Nodup:=by
 induction es with
 | nil=>simp [mdel]
 | cons e es ih =>
  rw [List.map_cons,List.nodup_cons] at h
  rw [mdel_cons];split
  ·exact h.2
  ·rw [List.map_cons,List.nodup_cons]
   refine ⟨fun hm=>h.1 ?_,ih h.2⟩
   have:mlook (mdel es k) e.1≠none:=fun hn=>mlook_none.1 hn hm
   rw [mdel_look h.2] at this
   split at this
   ·exact absurd rfl this
   ·exact Classical.byContradiction fun hh=>this (mlook_none.2 hh)
end
structure Hd where
 value:ByteArray
 kk:SK
 keys:List ByteArray
 stamp:Int
def encHd (h:Hd):T:=.agg [.str h.value,.sl h.kk (h.keys.map eS),.int .i64 h.stamp]
def encV (vs:List (Nm × Hd)):List (Nm × T):=vs.map fun e=>(e.1,encHd e.2)
def encL (ls:List (ByteArray × Nat)):List (ByteArray × T):=ls.map fun e=>(e.1,T.int .u64 e.2)
structure Sto where
 vs:List (Nm × Hd)
 ls:List (ByteArray × Nat)
 ids:ByteArray→List Nat
 pls:Nat→List ByteArray
 n:Nat
structure SInv (s:Sto):Prop where
 rise:∀ k,RiseN (s.ids k)
 idm:∀ k n,n∈s.ids k↔(mlook s.vs (k,n)).isSome=true
 pnd:∀ n,(s.pls n).Nodup
 plm:∀ n k,k∈s.pls n↔(mlook s.vs (k,n)).isSome=true
 nd:(s.vs.map (·.1)).Nodup
 kok:∀ m h,mlook s.vs m=some h→KOk h.kk h.keys∧h.keys.length≤1024
 bi:∀ k,(s.ids k).length≤s.n
 bp:∀ n,(s.pls n).length≤s.n
 ndl:(s.ls.map (·.1)).Nodup
def Own {α:Type} (enc:α→List T) (F:Nat→Prop) (H:Heap) (o:Option T) (l:List α):Prop:=match o with
 | .none=>l=[]
 | some t=>∃ b,t=.msl b 0 l.length 1∧H[b]?=some (.cells (msC enc l))∧F b
def blk:Option T→Option Nat
 | some (.msl b _ _ _)=>some b
 | _=>.none
theorem Own.mut {α:Type} {enc:α→List T} {F:Nat→Prop} {H:Heap} {o:Option T} {l:List α} (h:Own enc F H o l):Mut enc 1 0 H (lkpT o (.sl .nil []) false) l:=by
 cases o with
 | none=>have h:l=[]:=h;exact .inl ⟨h,rfl⟩
 | some t=>obtain ⟨b,rfl,h1,_⟩:=h;exact .inr ⟨b,rfl,h1,Nat.zero_le _⟩
theorem Own.keep {α:Type} {enc:α→List T} {F F':Nat→Prop} {H H':Heap} {o:Option T} {l:List α} (h:Own enc F H o l) (hk:∀ b x,blk o=some b→H[b]?=some x→H'[b]?=some x) (hF:∀ b,blk o=some b→F b→F' b):Own enc F' H' o l:=by
 cases o with
 | none=>exact h
 | some t=>obtain ⟨b,rfl,h1,h2⟩:=h;exact ⟨b,rfl,hk b _ rfl h1,hF b rfl h2⟩
theorem Own.cells {α:Type} {enc:α→List T} {F:Nat→Prop} {H:Heap} {o:Option T} {l:List α} (h:Own enc F H o l) {b:Nat} (hb:blk o=some b):H[b]?=some (.cells (msC enc l))∧F b:=by
 cases o with
 | none=>cases hb
 | some t=>obtain ⟨b',rfl,h1,h2⟩:=h;cases hb;exact ⟨h1,h2⟩
structure Bk where
 s:Nat
 v:Nat
 i:Nat
 p:Nat
 l:Nat
structure SAt (H:Heap) (b:Bk) (im:List (ByteArray × T)) (pm:List (Nat × T)) (s:Sto) (F:Nat→Prop):Prop where
 hs:H[b.s]?=some (.cells [.map b.v,.map b.i,.map b.p,.map b.l])
 hv:H[b.v]?=some (.map (encK kN (encV s.vs)))
 hi:H[b.i]?=some (.map (encK T.str im))
 hp:H[b.p]?=some (.map (encK kU pm))
 hl:H[b.l]?=some (.map (encK T.str (encL s.ls)))
 vi:b.v≠b.i
 vp:b.v≠b.p
 vl:b.v≠b.l
 ip:b.i≠b.p
 il:b.i≠b.l
 pl:b.p≠b.l
 F0:F b.s∧F b.v∧F b.i∧F b.p∧F b.l
 oi:∀ k,Own eU F H (mlook im k) (s.ids k)
 op:∀ n,Own eS F H (mlook pm n) (s.pls n)
 si:∀ k k' c,blk (mlook im k)=some c→blk (mlook im k')=some c→k=k'
 sp:∀ n n' c,blk (mlook pm n)=some c→blk (mlook pm n')=some c→n=n'
 sx:∀ k n c,blk (mlook im k)=some c→blk (mlook pm n)=some c→False
 np:(pm.map (·.1)).Nodup
def SH (H:Heap) (b:Bk) (s:Sto) (F:Nat→Prop):Prop:=∃ im pm,SAt H b im pm s F
theorem cell_ne {H:Heap} {b c:Nat} {es:List (T × T)} {cs:List T} (h:H[b]?=some (.map es)) (h':H[c]?=some (.cells cs)):b≠c:=by rintro rfl;rw [h] at h';cases h'
theorem SAt.ne {H:Heap} {b:Bk} {im:List (ByteArray × T)} {pm:List (Nat × T)} {s:Sto} {F:Nat→Prop} (h:SAt H b im pm s F):b.v≠b.s∧b.i≠b.s∧b.p≠b.s∧b.l≠b.s:=⟨cell_ne h.hv h.hs,cell_ne h.hi h.hs,cell_ne h.hp h.hs,cell_ne h.hl h.hs⟩
theorem msC_blk {α:Type} {enc:α→List T} (hn:∀ x,∃ t,enc x=[t]∧∀ b,t≠.map b) {l:List α} {a b c d:Nat}:msC enc l≠[.map a,.map b,.map c,.map d]:=by
 intro h
 cases l with
 | nil=>simp [msC] at h
 | cons x l =>
  obtain ⟨t,ht,hm⟩:=hn x
  simp -implicitDefEqProofs only [msC,List.flatMap_cons,ht,List.cons_append,List.nil_append,List.cons.injEq] at h
  exact hm _ h.1
theorem SAt.blkI {H:Heap} {b:Bk} {im:List (ByteArray × T)} {pm:List (Nat × T)} {s:Sto} {F:Nat→Prop} (h:SAt H b im pm s F) {k:ByteArray} {c:Nat} (hc:blk (mlook im k)=some c):c≠b.s∧c≠b.v∧c≠b.i∧c≠b.p∧c≠b.l∧F c∧c<H.length:=by
 obtain ⟨h1,h2⟩:=(h.oi k).cells hc
 refine ⟨?_,Ne.symm (cell_ne h.hv h1),Ne.symm (cell_ne h.hi h1),Ne.symm (cell_ne h.hp h1),Ne.symm (cell_ne h.hl h1),h2,glt h1⟩
 rintro rfl
 rw [h.hs] at h1
 exact msC_blk (enc:=eU) (fun x=>⟨_,rfl,fun _ h=>by cases h⟩) (B.cells.inj (Option.some.inj h1)).symm
theorem SAt.blkP {H:Heap} {b:Bk} {im:List (ByteArray × T)} {pm:List (Nat × T)} {s:Sto} {F:Nat→Prop} (h:SAt H b im pm s F) {n:Nat} {c:Nat} (hc:blk (mlook pm n)=some c):c≠b.s∧c≠b.v∧c≠b.i∧c≠b.p∧c≠b.l∧F c∧c<H.length:=by
 obtain ⟨h1,h2⟩:=(h.op n).cells hc
 refine ⟨?_,Ne.symm (cell_ne h.hv h1),Ne.symm (cell_ne h.hi h1),Ne.symm (cell_ne h.hp h1),Ne.symm (cell_ne h.hl h1),h2,glt h1⟩
 rintro rfl
 rw [h.hs] at h1
 exact msC_blk (enc:=eS) (fun x=>⟨_,rfl,fun _ h=>by cases h⟩) (B.cells.inj (Option.some.inj h1)).symm
theorem SAt.frm {H H':Heap} {b:Bk} {im:List (ByteArray × T)} {pm:List (Nat × T)} {s:Sto} {F G:Nat→Prop} (h:SAt H b im pm s F) (hf:Frm G H H') (hg:∀ c,F c→c<H.length→¬ G c):SAt H' b im pm s F:=by
 obtain ⟨f0,f1,f2,f3,f4⟩:=h.F0
 have k:∀ {c x},F c→H[c]?=some x→H'[c]?=some x:=fun hF hx=>hf.get hx (hg _ hF (glt hx))
 exact ⟨k f0 h.hs,k f1 h.hv,k f2 h.hi,k f3 h.hp,k f4 h.hl,h.vi,h.vp,h.vl,h.ip,h.il,h.pl,h.F0,
  fun q=>(h.oi q).keep (fun c x hc hx=>k (h.blkI hc).2.2.2.2.2.1 hx) (fun _ _ h=>h),fun q=>(h.op q).keep (fun c x hc hx=>k (h.blkP hc).2.2.2.2.2.1 hx) (fun _ _ h=>h),h.si,h.sp,h.sx,h.np⟩
theorem rise_pw {l:List Nat}:RiseN l↔l.Pairwise (· < ·):=by
 rw [List.pairwise_iff_getElem]
 constructor
 ·intro h i j hi hj hij
  exact h i j _ _ hij (List.getElem?_eq_getElem hi) (List.getElem?_eq_getElem hj)
 ·intro h i j a b hij ha hb
  obtain ⟨hi,e1⟩:=List.getElem?_eq_some_iff.1 ha
  obtain ⟨hj,e2⟩:=List.getElem?_eq_some_iff.1 hb
  have:=h i j hi hj hij
  rw [e1,e2] at this;exact this
theorem rise_ins {l:List Nat} {i x:Nat} (h:RiseN l) (hx:x∉l) (h1:∀ p a,p<i→l[p]?=some a→a<x) (h2:∀ p a,i≤p→l[p]?=some a→x≤a):RiseN (l.take i++x :: l.drop i):=by
 rw [rise_pw] at h ⊢
 have m1:∀ a∈l.take i,a<x:=fun a ha=>by
  obtain ⟨p,hp,e⟩:=List.getElem_of_mem ha
  have hp':p<i∧p<l.length:=by simp -implicitDefEqProofs only [List.length_take] at hp;omega
  exact h1 p a hp'.1 (by rw [← e];simp [List.getElem?_eq_getElem hp'.2])
 have m2:∀ a∈l.drop i,x<a:=fun a ha=>by
  obtain ⟨p,hp,e⟩:=List.getElem_of_mem ha
  have hp':i+p<l.length:=by simp -implicitDefEqProofs only [List.length_drop] at hp;omega
  have h3:=h2 (i+p) a (by omega) (by rw [← e];simp [List.getElem?_eq_getElem hp'])
  have:a≠x:=by rintro rfl;exact hx (List.mem_of_mem_drop ha)
  omega
 rw [List.pairwise_append]
 refine ⟨h.sublist (List.take_sublist _ _),?_,fun a ha b hb=>?_⟩
 ·rw [List.pairwise_cons]
  exact ⟨m2,h.sublist (List.drop_sublist _ _)⟩
 ·have:=m1 a ha
  rcases List.mem_cons.1 hb with rfl | hb
  ·exact this
  ·have:=m2 b hb;omega
theorem mem_ins {l:List Nat} {i x a:Nat}:a∈l.take i++x :: l.drop i↔a=x∨a∈l:=by
 conv=>rhs;rw [← List.take_append_drop i l]
 simp -implicitDefEqProofs only [List.mem_append,List.mem_cons]
 constructor
 ·rintro (h | h | h)
  ·exact .inr (.inl h)
  ·exact .inl h
  ·exact .inr (.inr h)
 ·rintro (h | h | h)
  ·exact .inr (.inl h)
  ·exact .inl h
  ·exact .inr (.inr h)
theorem blk_lkp {o:Option T} {c off len m:Nat} (h:lkpT o (.sl .nil []) false=.msl c off len m):blk o=some c:=by
 cases o with
 | none=>cases h
 | some t=>have h:t=_:=h;subst h;rfl
def Sto.put (s:Sto) (k:ByteArray) (n:Nat) (h:Hd) (l:List Nat):Sto:=⟨mput s.vs (k,n) h,s.ls,fun k'=>if k'=k then l else s.ids k',fun n'=>if n'=n then s.pls n++[k] else s.pls n',s.n+1⟩
theorem SInv.put {s:Sto} (hi:SInv s) {k:ByteArray} {n:Nat} {h:Hd} (hno:mlook s.vs (k,n)=none) (hk:KOk h.kk h.keys∧h.keys.length≤1024) {i:Nat} (h1:∀ p a,p<i→(s.ids k)[p]?=some a→a<n) (h2:∀ p a,i≤p→(s.ids k)[p]?=some a→n≤a):SInv (s.put k n h ((s.ids k).take i++n :: (s.ids k).drop i)):=by
 have hx:n∉s.ids k:=fun hm=>by rw [hi.idm,hno] at hm;cases hm
 have hp:k∉s.pls n:=fun hm=>by rw [hi.plm,hno] at hm;cases hm
 refine ⟨fun k'=>?_,fun k' n'=>?_,fun n'=>?_,fun n' k'=>?_,mput_nodup hi.nd _ _,fun m h' hm=>?_,fun k'=>?_,fun n'=>?_,hi.ndl⟩
 ·simp -implicitDefEqProofs only [Sto.put];split
  ·exact rise_ins (hi.rise k) hx h1 h2
  ·exact hi.rise k'
 ·simp -implicitDefEqProofs only [Sto.put,mlook_put]
  by_cases e:k'=k
  ·subst e
   simp -implicitDefEqProofs only [if_true,mem_ins,hi.idm,Prod.mk.injEq,true_and]
   by_cases e2:n'=n <;> simp [e2]
  ·simp [e,hi.idm]
 ·simp -implicitDefEqProofs only [Sto.put];split
  ·rw [List.nodup_append];exact ⟨hi.pnd n,by simp,fun a ha c hc=>by simp at hc;subst hc;rintro rfl;exact hp ha⟩
  ·exact hi.pnd n'
 ·simp -implicitDefEqProofs only [Sto.put,mlook_put]
  by_cases e:n'=n
  ·subst e
   simp -implicitDefEqProofs only [if_true,List.mem_append,List.mem_singleton,hi.plm,Prod.mk.injEq,and_true]
   by_cases e2:k'=k <;> simp [e2]
  ·simp [e,hi.plm]
 ·simp -implicitDefEqProofs only [Sto.put,mlook_put] at hm
  split at hm
  ·cases hm;exact hk
  ·exact hi.kok m h' hm
 ·have:=hi.bi k'
  simp -implicitDefEqProofs only [Sto.put];split
  ·rename_i e;subst e;simp -implicitDefEqProofs only [List.length_append,List.length_take,List.length_cons,List.length_drop];omega
  ·omega
 ·have:=hi.bp n'
  simp -implicitDefEqProofs only [Sto.put];split
  ·rename_i e;subst e;simp -implicitDefEqProofs only [List.length_append,List.length_singleton];omega
  ·omega
theorem put41 (b:Bk) (s:Sto) (F:Nat→Prop) (k:ByteArray) (n:Nat) (h:Hd) (H:Heap) (hs:SH H b s F) (hi:SInv s) (hno:mlook s.vs (k,n)=none) (hn:s.n≤8000000) (hk:KOk h.kk h.keys∧h.keys.length≤1024) :
  W env (.call 95 [.ptr b.s 0,kN (k,n),encHd h]) H (fun o H'=>o=.val (.tup [])∧∃ s' F',SH H' b s' F'∧SInv s'∧s'.vs=mput s.vs (k,n) h∧s'.ls=s.ls∧s'.n=s.n+1∧Frm F H H'∧∀ c,F' c→F c∨(H.length≤c∧c<H'.length)):=by
 obtain ⟨im,pm,sa⟩:=hs
 obtain ⟨sv,si,sp,sl⟩:=sa.ne
 have l0:=glt sa.hs
 have lv:=glt sa.hv
 have li:=glt sa.hi
 have lp:=glt sa.hp
 have ll:=glt sa.hl
 obtain ⟨t,ht⟩:∃ t,lkpT (mlook im k) (.sl .nil []) false=t:=⟨_,rfl⟩
 have hmt:=(sa.oi k).mut
 rw [ht] at hmt
 have hup:=fun Hx v=>upmB_K kNok Hx b.v (encV s.vs) (k,n) v
 simp -implicitDefEqProofs only [kN,eN] at hup
 refine W.fnI rfl rfl rfl ?_
 simp -implicitDefEqProofs only [ir95,kN,eN,encHd,op,ef,cl,sq,reduceIte,q4,q5,j2,j3,j4,j5,j6,j7,j8,S1,S2,S3,List.length_set,sa.hs,sa.hv,l0,lv,hup,sv,li,sa.hi,sa.vi,lkpB_M,ht]
 generalize hH1:H.set b.v (B.map (encK kN (mput (encV s.vs) (k,n) (T.agg [T.str h.value,T.sl h.kk (h.keys.map eS),T.int IntKind.i64 h.stamp]))))++[B.cells [T.str k,T.int IntKind.u64 n]]++[B.cells [T.str h.value,T.sl h.kk (h.keys.map eS),T.int IntKind.i64 h.stamp]]=H1
 have len1:H1.length=H.length+2:=by rw [← hH1];simp
 have keep1:∀ {c x},c≠b.v→H[c]?=some x→H1[c]?=some x:=fun hc hx=>by
  have:=glt hx
  rw [← hH1,g_app (by simp;omega),g_app (by simpa using this),g_ne (Ne.symm hc)];exact hx
 have c1:H1[H.length]?=some (.cells [T.str k,T.int IntKind.u64 n]):=by rw [← hH1,g_app (by simp),g_tail (by simp)]
 have v1:H1[b.v]?=some (.map (encK kN (encV (mput s.vs (k,n) h)))):=by
  rw [← hH1,g_app (by simp;omega),g_app (by simpa using lv),g_eq lv]
  congr 3;exact mput_map encHd s.vs (k,n) h
 have s1:=keep1 (Ne.symm sv) sa.hs
 have i1:=keep1 (Ne.symm sa.vi) sa.hi
 have p1:=keep1 (Ne.symm sa.vp) sa.hp
 have w1:=keep1 (Ne.symm sa.vl) sa.hl
 have hmt1:Mut eU 1 0 H1 t (s.ids k):=by
  have:=((sa.oi k).keep (F':=F) (H':=H1) (fun c x hc hx=>keep1 (sa.blkI hc).2.1 hx) (fun _ _ h=>h)).mut
  rwa [ht] at this
 refine callB_of _ _ _ _ _ _ _ _ (bs59 0 t (s.ids k) n H1 hmt1 (by have:=hi.bi k;omega) (hi.rise k)) ?_
 rintro u H2 ⟨i,fd,hu,rfl,hi1,hi2,hi3⟩
 cases hu
 have l10:b.s<H2.length:=glt s1
 have l11:H.length<H2.length:=glt c1
 have l12:b.i<H2.length:=glt i1
 have l13:b.p<H2.length:=glt p1
 simp -implicitDefEqProofs only [op,ef,cl,sq,reduceIte,q4,q5,j2,j3,j4,j5,j6,j7,j8,S1,S2,S3,s1,c1,i1,l10,l11,l12,lkpB_M,ht]
 have tne:∀ c,(∀ c',blk (mlook im k)=some c'→c'≠c)→∀ off len m,t≠.msl c off len m:=fun c hc off len m he=>hc c (blk_lkp (ht.trans he)) rfl
 have fr2:∀ y:B,Ext H2 (H2++[y]):=fun y=>⟨_,rfl⟩
 have h60:=ins60 t (s.ids k) i n H2.length _ (hmt1.ext (fr2 (.cells [.int .u64 n]))) (g_tail rfl) (fun off len m he=>by have:=(sa.blkI (blk_lkp (ht.trans he))).2.2.2.2.2.2;omega) hi1 (by have:=hi.bi k;omega)
 obtain ⟨ys,hys⟩:∃ ys,ys=(s.ids k).take i++n :: (s.ids k).drop i:=⟨_,rfl⟩
 rw [← hys] at h60
 refine callB_of _ _ _ _ _ _ _ _ h60 ?_
 rintro u H3 ⟨b',hu,hb',_,hst,hfr⟩
 cases hu
 have keep3:∀ {c x},H2[c]?=some x→(∀ c',blk (mlook im k)=some c'→c'≠c)→H3[c]?=some x:=fun hx hc=>hst.get _ _ ((fr2 _).get hx) (tne _ hc)
 have s3:=keep3 s1 fun c' hc=>(sa.blkI hc).1
 have v3:=keep3 v1 fun c' hc=>(sa.blkI hc).2.1
 have i3:=keep3 i1 fun c' hc=>(sa.blkI hc).2.2.1
 have p3:=keep3 p1 fun c' hc=>(sa.blkI hc).2.2.2.1
 have w3:=keep3 w1 fun c' hc=>(sa.blkI hc).2.2.2.2.1
 have c3:=keep3 c1 fun c' hc=>by have:=(sa.blkI hc).2.2.2.2.2.2;omega
 have l30:=glt s3
 have l31:=glt c3
 have l32:=glt i3
 have l33:=glt p3
 have len3:H2.length+1≤H3.length:=by have:=hst.len;simpa using this
 have bH:b.i≠H.length:=by omega
 obtain ⟨t2,ht2⟩:∃ t2,lkpT (mlook pm n) (.sl .nil []) false=t2:=⟨_,rfl⟩
 obtain ⟨H4,hH4⟩:∃ H4,H4=H3.set b.i (.map (encK T.str (mput im k (.msl b' 0 ys.length 1)))):=⟨_,rfl⟩
 have keep4:∀ {c x},H3[c]?=some x→c≠b.i→H4[c]?=some x:=fun hx hc=>by rw [hH4,g_ne (Ne.symm hc)];exact hx
 have s4:=keep4 s3 (Ne.symm si)
 have c4:=keep4 c3 (Ne.symm bH)
 have p4:=keep4 p3 (Ne.symm sa.ip)
 have v4:=keep4 v3 sa.vi
 have w4:=keep4 w3 (Ne.symm sa.il)
 have i4:H4[b.i]?=some (.map (encK T.str (mput im k (.msl b' 0 ys.length 1)))):=by rw [hH4,g_eq l32]
 have kP:∀ n' c x,blk (mlook pm n')=some c→H[c]?=some x→H4[c]?=some x:=fun n' c x hc hx=>by
  obtain ⟨e1,e2,e3,e4,e5,_,e6⟩:=sa.blkP hc
  exact keep4 (keep3 (keep1 e2 hx) fun c' hc' e=>sa.sx k n' c (e ▸ hc') hc) e3
 have hmt2:Mut eS 1 0 H4 t2 (s.pls n):=by
  have:=((sa.op n).keep (F':=F) (H':=H4) (fun c x hc hx=>kP n c x hc hx) (fun _ _ h=>h)).mut
  rwa [ht2] at this
 have hfg:fgt t2=t2:=by
  rcases hmt2 with ⟨_,rfl⟩ | ⟨_,rfl,_⟩ <;> rfl
 obtain ⟨t3,H5,hap,hm3,hst3⟩:=appM_ok (enc:=eS) (n:=1) (n0:=0) (bytes:=16) (fun _=>rfl) [k] hmt2 (Nat.zero_le _) (by simp) (roomS (by have:=hi.bp n;simp;omega) (by omega))
 simp -implicitDefEqProofs only [List.map_cons,List.map_nil,eS] at hap
 have t2ne:∀ c,(∀ c',blk (mlook pm n)=some c'→c'≠c)→∀ off len m,t2≠.msl c off len m:=fun c hc off len m he=>hc c (blk_lkp (ht2.trans he)) rfl
 have keep5:∀ {c x},H4[c]?=some x→(∀ c',blk (mlook pm n)=some c'→c'≠c)→H5[c]?=some x:=fun hx hc=>hst3.get _ _ hx (t2ne _ hc)
 have s5:=keep5 s4 fun c' hc=>(sa.blkP hc).1
 have v5:=keep5 v4 fun c' hc=>(sa.blkP hc).2.1
 have i5:=keep5 i4 fun c' hc=>(sa.blkP hc).2.2.1
 have p5:=keep5 p4 fun c' hc=>(sa.blkP hc).2.2.2.1
 have w5:=keep5 w4 fun c' hc=>(sa.blkP hc).2.2.2.2.1
 have c5:=keep5 c4 fun c' hc=>by have:=(sa.blkP hc).2.2.2.2.2.2;omega
 simp -implicitDefEqProofs only [op,ef,cl,sq,reduceIte,q4,q5,j2,j3,j4,j5,j6,j7,j8,S1,S2,s3,c3,i3,upmB_M,← hH4,s4,c4,p4,s5,c5,p5,lkpB_N,ht2,hfg,hap,upmB_N]
 have hpl:s.pls n++[k]≠[]:=by simp
 obtain ⟨b3,rfl,hb3,_⟩:∃ b3,t3=.msl b3 0 (s.pls n++[k]).length 1∧H5[b3]?=some (.cells (msC eS (s.pls n++[k])))∧0≤b3:=by
  rcases hm3 with ⟨h,_⟩ | h
  ·exact absurd h hpl
  ·exact h
 have fr3:H4.length≤b3:=appM_fr hap (by simp)
 have len4:H4.length=H3.length:=by rw [hH4];simp
 have lb':=glt hb'
 have lb3:=glt hb3
 have nb:H.length≤b'∨blk (mlook im k)=some b':=by
  rcases hfr with h | ⟨off,len,m,h⟩
  ·rw [List.length_append] at h;exact .inl (by omega)
  ·exact .inr (blk_lkp (ht.trans h))
 have nbS:∀ {c},c<H.length→(∀ c',blk (mlook im k)=some c'→c'≠c)→b'≠c:=fun hc hh=>nb.elim (fun h=>by omega) fun h=>hh _ h
 have keep6:∀ {c x},H5[c]?=some x→c≠b.p→(H5.set b.p (.map (encK kU (mput pm n (.msl b3 0 (s.pls n++[k]).length 1)))))[c]?=some x:=fun hx hc=>by rw [g_ne (Ne.symm hc)];exact hx
 have kI:∀ k' c x,k'≠k→blk (mlook im k')=some c→H[c]?=some x→(H5.set b.p (.map (encK kU (mput pm n (.msl b3 0 (s.pls n++[k]).length 1)))))[c]?=some x:=fun k' c x hk hc hx=>by
  obtain ⟨e1,e2,e3,e4,e5,_,e6⟩:=sa.blkI hc
  exact keep6 (keep5 (keep4 (keep3 (keep1 e2 hx) fun c' hc' e=>hk (sa.si k' k c hc (e ▸ hc'))) e3) fun c' hc' e=>sa.sx k' n c hc (e ▸ hc')) e4
 refine ⟨rfl,s.put k n h ys,fun c=>F c∨(H.length≤c∧c<H5.length),⟨mput im k (.msl b' 0 ys.length 1),mput pm n (.msl b3 0 (s.pls n++[k]).length 1),?_⟩,by rw [hys];exact hi.put hno hk hi2 hi3,rfl,rfl,rfl,?_,fun c h=>h⟩
 ·refine ⟨keep6 s5 (Ne.symm sp),keep6 v5 sa.vp,keep6 i5 sa.ip,g_eq (glt p5),keep6 w5 (Ne.symm sa.pl),sa.vi,sa.vp,sa.vl,sa.ip,sa.il,sa.pl,⟨.inl sa.F0.1,.inl sa.F0.2.1,.inl sa.F0.2.2.1,.inl sa.F0.2.2.2.1,.inl sa.F0.2.2.2.2⟩,fun k'=>?_,fun n'=>?_,fun k1 k2 c h1 h2=>?_,fun n1 n2 c h1 h2=>?_,fun k1 n1 c h1 h2=>?_,mput_nodup sa.np _ _⟩
  ·simp -implicitDefEqProofs only [Sto.put,mlook_put]
   by_cases e:k'=k
   ·simp -implicitDefEqProofs only [e,if_true]
    refine ⟨b',rfl,keep6 (keep5 (keep4 hb' (nbS li fun c' hc'=>(sa.blkI hc').2.2.1)) fun c' hc' e'=>?_) (nbS lp fun c' hc'=>(sa.blkI hc').2.2.2.1),nb.elim (fun h=>.inr ⟨h,by have:=hst3.len;omega⟩) fun h=>.inl (sa.blkI h).2.2.2.2.2.1⟩
    subst e'
    exact nb.elim (fun h=>by have:=(sa.blkP hc').2.2.2.2.2.2;omega) fun h=>sa.sx k n _ h hc'
   ·simp -implicitDefEqProofs only [e,if_false]
    exact (sa.oi k').keep (fun c x hc hx=>kI k' c x e hc hx) fun c _ h=>.inl h
  ·simp -implicitDefEqProofs only [Sto.put,mlook_put]
   by_cases e:n'=n
   ·simp -implicitDefEqProofs only [e,if_true]
    exact ⟨b3,rfl,keep6 hb3 (by omega),.inr ⟨by omega,lb3⟩⟩
   ·simp -implicitDefEqProofs only [e,if_false]
    refine (sa.op n').keep (fun c x hc hx=>keep6 (keep5 (kP n' c x hc hx) fun c' hc' e'=>e (sa.sp n' n c hc (e' ▸ hc'))) (sa.blkP hc).2.2.2.1) fun c _ h=>.inl h
  ·simp -implicitDefEqProofs only [mlook_put] at h1 h2
   by_cases e1:k1=k
   ·by_cases e2:k2=k
    ·rw [e1,e2]
    ·simp -implicitDefEqProofs only [e1,if_true,blk,Option.some.injEq] at h1
     simp -implicitDefEqProofs only [e2,if_false] at h2
     subst h1
     exact absurd (nb.elim (fun h=>by have:=(sa.blkI h2).2.2.2.2.2.2;omega) fun h=>sa.si _ _ _ h2 h) e2
   ·by_cases e2:k2=k
    ·simp -implicitDefEqProofs only [e2,if_true,blk,Option.some.injEq] at h2
     simp -implicitDefEqProofs only [e1,if_false] at h1
     subst h2
     exact absurd (nb.elim (fun h=>by have:=(sa.blkI h1).2.2.2.2.2.2;omega) fun h=>sa.si _ _ _ h1 h) e1
    ·simp -implicitDefEqProofs only [e1,e2,if_false] at h1 h2
     exact sa.si _ _ _ h1 h2
  ·simp -implicitDefEqProofs only [mlook_put] at h1 h2
   by_cases e1:n1=n
   ·by_cases e2:n2=n
    ·rw [e1,e2]
    ·simp -implicitDefEqProofs only [e1,if_true,blk,Option.some.injEq] at h1
     simp -implicitDefEqProofs only [e2,if_false] at h2
     have:=(sa.blkP h2).2.2.2.2.2.2;omega
   ·by_cases e2:n2=n
    ·simp -implicitDefEqProofs only [e2,if_true,blk,Option.some.injEq] at h2
     simp -implicitDefEqProofs only [e1,if_false] at h1
     have:=(sa.blkP h1).2.2.2.2.2.2;omega
    ·simp -implicitDefEqProofs only [e1,e2,if_false] at h1 h2
     exact sa.sp _ _ _ h1 h2
  ·simp -implicitDefEqProofs only [mlook_put] at h1 h2
   by_cases e1:k1=k
   ·simp -implicitDefEqProofs only [e1,if_true,blk,Option.some.injEq] at h1
    by_cases e2:n1=n
    ·simp -implicitDefEqProofs only [e2,if_true,blk,Option.some.injEq] at h2
     omega
    ·simp -implicitDefEqProofs only [e2,if_false] at h2
     subst h1
     exact nb.elim (fun h=>by have:=(sa.blkP h2).2.2.2.2.2.2;omega) fun h=>sa.sx _ _ _ h h2
   ·simp -implicitDefEqProofs only [e1,if_false] at h1
    by_cases e2:n1=n
    ·simp -implicitDefEqProofs only [e2,if_true,blk,Option.some.injEq] at h2
     have:=(sa.blkI h1).2.2.2.2.2.2;omega
    ·simp -implicitDefEqProofs only [e2,if_false] at h2
     exact sa.sx _ _ _ h1 h2
 ·refine ⟨by have:=hst3.len;rw [List.length_set];omega,fun c hc hF=>?_⟩
  obtain ⟨x,hx⟩:=getP hc
  have ne:∀ {c'},F c'→c≠c':=fun h e=>hF (e ▸ h)
  rw [hx]
  exact keep6 (keep5 (keep4 (keep3 (keep1 (ne sa.F0.2.1) hx) fun c' hc'=>Ne.symm (ne (sa.blkI hc').2.2.2.2.2.1)) (ne sa.F0.2.2.1)) fun c' hc'=>Ne.symm (ne (sa.blkP hc').2.2.2.2.2.1)) (ne sa.F0.2.2.2.1)
def Sto.emp:Sto:=⟨[],[],fun _=>[],fun _=>[],0⟩
theorem SInv.emp:SInv Sto.emp:=⟨fun _ i j a b _ h=>by simp [Sto.emp] at h,fun k n=>by simp [Sto.emp,mlook_nil],fun _=>by simp [Sto.emp],fun n k=>by simp [Sto.emp,mlook_nil],by simp [Sto.emp],fun m h hm=>by simp [Sto.emp,mlook_nil] at hm,fun _=>by simp [Sto.emp],fun _=>by simp [Sto.emp],by simp [Sto.emp]⟩
theorem new7 (H:Heap):W env (.call 22 []) H (fun o H'=>Ext H H'∧∃ b F,o=.val (.ptr b.s 0)∧SH H' b Sto.emp F∧∀ c,F c→H.length≤c∧c<H'.length):=by
 refine W.fnI rfl rfl rfl ?_
 simp -implicitDefEqProofs only [ir22,op,ef,cl,sq,reduceIte,q4,q5,j2,j3,j4,j5,j6,j7,j8,S1,S3]
 refine ⟨(((((Ext.rfl'.app _).app _).app _).app _).app _),⟨H.length+4,H.length,H.length+1,H.length+2,H.length+3⟩,fun c=>H.length≤c∧c<H.length+5,rfl,⟨[],[],?_⟩,fun c h=>⟨h.1,by have:=h.2;simp;omega⟩⟩
 refine ⟨?_,?_,?_,?_,?_,by simp,by simp,by simp,by simp,by simp,by simp,by simp,fun _=>rfl,fun _=>rfl,fun k k' c h=>by simp [mlook_nil,blk] at h,fun k k' c h=>by simp [mlook_nil,blk] at h,fun k k' c h=>by simp [mlook_nil,blk] at h,by simp⟩
 ·rw [g_tail (by simp)]
 ·rw [g_app (by simp <;> omega),g_app (by simp <;> omega),g_app (by simp <;> omega),g_app (by simp),g_tail (by simp)];rfl
 ·rw [g_app (by simp),g_app (by simp),g_app (by simp),g_tail (by simp)];rfl
 ·rw [g_app (by simp),g_app (by simp),g_tail (by simp)];rfl
 ·rw [g_app (by simp),g_tail (by simp)];rfl
def hdOf (o:Option Hd):Hd:=o.getD ⟨⟨#[]⟩,.nil,[],0⟩
theorem lkp_hd (vs:List (Nm × Hd)) (n:Nm):lkpT (mlook (encV vs) n) (.agg [.str ⟨#[]⟩,.sl .nil [],.int .i64 0]) false=encHd (hdOf (mlook vs n)):=by
 unfold encV;rw [mlook_map]
 cases mlook vs n <;> rfl
def eVer (k:ByteArray) (n:Nat) (v:ByteArray) (kk:SK) (keys:List ByteArray):List T:=[.str k,.int .u64 n,.str v,.sl kk (keys.map eS)]
def VerQ (H:Heap) (k:ByteArray) (n:Nat) (h:Hd):Out→Heap→Prop:=fun o H'=>Ext H H'∧∃ kk,KOk kk h.keys∧o=.val (.agg (eVer k n h.value kk h.keys))
theorem version30 (b:Bk) (s:Sto) (F:Nat→Prop) (k:ByteArray) (n:Nat) (H:Heap) (hs:SH H b s F) (hi:SInv s):W env (.call 91 [.ptr b.s 0,kN (k,n)]) H (VerQ H k n (hdOf (mlook s.vs (k,n)))):=by
 obtain ⟨im,pm,sa⟩:=hs
 have l0:=glt sa.hs
 have lv:=glt sa.hv
 have hlk:=fun Hx z ok=>lkpB_K kNok z ok Hx (encV s.vs) (k,n)
 simp -implicitDefEqProofs only [kN,eN] at hlk
 have hh:=lkp_hd s.vs (k,n)
 obtain ⟨h,hh'⟩:∃ h,h=hdOf (mlook s.vs (k,n)):=⟨_,rfl⟩
 have hko:KOk h.kk h.keys∧h.keys.length≤1024:=by
  rw [hh']
  cases e:mlook s.vs (k,n) with
  | none=>exact ⟨fun _=>rfl,by simp [hdOf]⟩
  | some h=>exact hi.kok _ _ e
 rw [← hh'] at hh ⊢
 refine W.fnI rfl rfl rfl ?_
 simp -implicitDefEqProofs only [ir91,kN,eN,op,ef,cl,sq,reduceIte,q4,q5,j2,j3,j4,j5,j6,j7,j8,S1,S2,S3,List.length_set,sa.hs,sa.hv,l0,lv,hlk,hh,encHd]
 refine callB_of _ _ _ _ _ _ _ _ (clone42 h.kk h.keys _ hko.1 (by omega)) ?_
 rintro u H2 ⟨hx,kk,hkk,hu⟩
 cases hu
 have c0:H2[H.length]?=some (.cells [.str k,.int .u64 n]):=hx.get (by rw [g_app (by simp <;> omega),g_app (by simp),g_tail rfl])
 have c1:H2[H.length+1]?=some (.cells [.str ⟨#[]⟩,.int .u64 0,.str ⟨#[]⟩,.sl .nil []]):=hx.get (by rw [g_app (by simp),g_tail (by simp)])
 have c2:H2[H.length+2]?=some (.cells [.str h.value,.sl h.kk (h.keys.map eS),.int .i64 h.stamp]):=hx.get (by rw [g_tail (by simp)])
 have k1:=glt c1
 simp -implicitDefEqProofs only [op,ef,cl,sq,reduceIte,q4,q5,j2,j3,j4,j5,j6,j7,j8,S1,c0,c1,c2,S2,k1]
 exact ⟨((((Ext.rfl'.app _).app _).app _).trans hx).set (by omega) _,kk,hkk,rfl⟩
theorem mlook_encL (ls:List (ByteArray × Nat)) (k:ByteArray):mlook (encL ls) k=(mlook ls k).map fun n:Nat=>T.int .u64 n:=mlook_map (fun n:Nat=>T.int .u64 n) ls k
def lastOf (s:Sto) (k:ByteArray):Nat:=(mlook s.ls k).getD 0
theorem lkp_last (s:Sto) (k:ByteArray):lkpT (mlook (encL s.ls) k) (.int .u64 0) false=.int .u64 (lastOf s k):=by
 unfold lastOf;rw [mlook_encL]
 cases mlook s.ls k <;> rfl
def latest (s:Sto) (k:ByteArray):Hd:=match mlook s.ls k with
 | none=>hdOf none
 | some id=>hdOf (mlook s.vs (k,id))
theorem latest16 (b:Bk) (s:Sto) (F:Nat→Prop) (k:ByteArray) (H:Heap) (hs:SH H b s F) (hi:SInv s):W env (.call 66 [.ptr b.s 0,.str k]) H (VerQ H k (lastOf s k) (latest s k)):=by
 obtain ⟨im,pm,sa⟩:=hs
 have l0:=glt sa.hs
 have ll:=glt sa.hl
 have hlk:lkpT (mlook (encL s.ls) k) (.int .u64 0) true=.tup [.int .u64 (lastOf s k:Nat),.bool (mlook s.ls k).isSome]:=by
  unfold lastOf;rw [mlook_encL]
  cases mlook s.ls k <;> rfl
 refine W.fnI rfl rfl rfl ?_
 cases e:mlook s.ls k with
 | none =>
  have e0:lastOf s k=0:=by simp [lastOf,e]
  rw [e] at hlk
  simp -implicitDefEqProofs only [Option.isSome_none] at hlk
  simp -implicitDefEqProofs only [ir66,op,ef,cl,sq,reduceIte,q4,q5,j2,j3,j4,j5,j6,j7,j8,S1,S2,S3,sa.hs,sa.hl,l0,ll,lkpB_M,hlk]
  refine ⟨Ext.rfl'.app _,.nil,fun _=>?_,?_⟩
  ·simp [latest,e,hdOf]
  ·simp [latest,e,hdOf,eVer,e0]
 | some id =>
  have e0:lastOf s k=id:=by simp [lastOf,e]
  have e1:latest s k=hdOf (mlook s.vs (k,id)):=by simp [latest,e]
  rw [e] at hlk
  simp -implicitDefEqProofs only [Option.isSome_some] at hlk
  simp -implicitDefEqProofs only [ir66,op,ef,cl,sq,reduceIte,q4,q5,j2,j3,j4,j5,j6,j7,j8,S1,S2,S3,sa.hs,sa.hl,l0,ll,lkpB_M,hlk]
  have hx0:Ext H (H++[B.cells [T.str ⟨#[]⟩,.int .u64 0,.str ⟨#[]⟩,.sl .nil []]]):=⟨_,rfl⟩
  rw [e1]
  refine callB_of _ _ _ _ _ _ _ _ (version30 b s F k (lastOf s k) _ ⟨im,pm,sa.frm (ext_frm (F:=fun _=>False) hx0) (fun _ _ _ h=>h)⟩ hi) ?_
  rintro u H2 ⟨hx,kk,hkk,hu⟩
  cases hu
  have c0:H2[H.length]?=some (.cells [.str ⟨#[]⟩,.int .u64 0,.str ⟨#[]⟩,.sl .nil []]):=hx.get (by rw [g_tail rfl])
  have k1:=glt c0
  simp -implicitDefEqProofs only [op,ef,cl,sq,reduceIte,q4,q5,j2,j3,j4,j5,j6,j7,j8,S1,c0,S2,k1,eVer]
  rw [e0] at *
  exact ⟨(hx0.trans hx).set (by omega) _,kk,hkk,rfl⟩
theorem byID12 (b:Bk) (s:Sto) (F:Nat→Prop) (k:ByteArray) (n:Nat) (H:Heap) (hs:SH H b s F) (hi:SInv s):W env (.call 80 [.ptr b.s 0,.str k,.int .u64 n]) H (fun o H'=>Ext H H'∧((mlook s.vs (k,n)=none∧o=.val (.tup [.agg [.str ⟨#[]⟩,.int .u64 0,.str ⟨#[]⟩,.sl .nil []],.int .i64 110]))∨∃ h kk,mlook s.vs (k,n)=some h∧KOk kk h.keys∧o=.val (.tup [.agg (eVer k n h.value kk h.keys),.int .i64 0]))):=by
 obtain ⟨im,pm,sa⟩:=hs
 have l0:=glt sa.hs
 have lv:=glt sa.hv
 have hlk:=fun Hx z ok=>lkpB_K kNok z ok Hx (encV s.vs) (k,n)
 simp -implicitDefEqProofs only [kN,eN] at hlk
 have hhd:lkpT (mlook (encV s.vs) (k,n)) (.agg [.str ⟨#[]⟩,.sl .nil [],.int .i64 0]) true=.tup [encHd (hdOf (mlook s.vs (k,n))),.bool (mlook s.vs (k,n)).isSome]:=by
  unfold encV;rw [mlook_map]
  cases mlook s.vs (k,n) <;> rfl
 refine W.fnI rfl rfl rfl ?_
 cases e:mlook s.vs (k,n) with
 | none =>
  rw [e] at hhd
  simp -implicitDefEqProofs only [Option.isSome_none] at hhd
  simp -implicitDefEqProofs only [ir80,op,ef,cl,sq,reduceIte,q4,q5,j2,j3,j4,j5,j6,j7,j8,S1,S2,S3,List.length_set,sa.hs,sa.hv,l0,lv,hlk,hhd,encHd]
  exact ⟨((Ext.rfl'.app _).app _).app _,.inl trivial⟩
 | some h =>
  rw [e] at hhd
  simp -implicitDefEqProofs only [Option.isSome_some] at hhd
  simp -implicitDefEqProofs only [ir80,op,ef,cl,sq,reduceIte,q4,q5,j2,j3,j4,j5,j6,j7,j8,S1,S2,S3,List.length_set,sa.hs,sa.hv,l0,lv,hlk,hhd,encHd]
  refine callB_of _ _ _ _ _ _ _ _ (version30 b s F k n _ ⟨im,pm,sa.frm (ext_frm (F:=fun _=>False) (((Ext.rfl'.app _).app _).app _)) (fun _ _ _ h=>h)⟩ hi) ?_
  rintro u H2 ⟨hx,kk,hkk,hu⟩
  cases hu
  have c0:H2[H.length]?=some (.cells [.str ⟨#[]⟩,.int .u64 0,.str ⟨#[]⟩,.sl .nil []]):=hx.get (by rw [g_app (by simp <;> omega),g_app (by simp),g_tail rfl])
  have k1:=glt c0
  rw [e] at hkk
  simp -implicitDefEqProofs only [op,ef,cl,sq,reduceIte,q4,q5,j2,j3,j4,j5,j6,j7,j8,S1,c0,S2,k1,eVer,e]
  exact ⟨(((((Ext.rfl'.app _).app _).app _).trans hx).set (by omega) _),.inr ⟨h,kk,rfl,hkk,rfl⟩⟩
structure PutV (s s':Sto) (n:Nat) (l:List (ByteArray × ByteArray)) (ks:List ByteArray) (now:Int) (fr:Bool):Prop where
 other:∀ m:Nm,(m.2≠n∨m.1∉l.map (·.1))→mlook s'.vs m=mlook s.vs m
 old:∀ p∈l,∀ h,mlook s.vs (p.1,n)=some h→mlook s'.vs (p.1,n)=some h
 new:∀ p∈l,mlook s.vs (p.1,n)=none→∃ kk,KOk kk ks∧mlook s'.vs (p.1,n)=some ⟨p.2,kk,ks,if n<lastOf s p.1 then now else -1⟩
 fresh:fr=true↔∃ p∈l,mlook s.vs (p.1,n)=none
 ls:s'.ls=s.ls
theorem PutV.nil (s:Sto) (n:Nat) (ks:List ByteArray) (now:Int):PutV s s n [] ks now false:=⟨fun _ _=>rfl,by simp,by simp,by simp,rfl⟩
theorem PutV.there {s s':Sto} {n:Nat} {l:List (ByteArray × ByteArray)} {ks:List ByteArray} {now:Int} {fr:Bool} (h:PutV s s' n l ks now fr) {p:ByteArray × ByteArray} {hd:Hd} (hp:p.1∉l.map (·.1)) (ht:mlook s'.vs (p.1,n)=some hd):PutV s s' n (l++[p]) ks now fr:=by
 have e:=h.other (p.1,n) (.inr hp)
 rw [ht] at e
 refine ⟨fun m hm=>h.other m ?_,fun q hq h' hh=>?_,fun q hq hn=>?_,?_,h.ls⟩
 ·simp -implicitDefEqProofs only [List.map_append,List.mem_append,not_or] at hm
  exact hm.imp id (·.1)
 ·rcases List.mem_append.1 hq with hq | hq
  ·exact h.old q hq h' hh
  ·simp at hq;subst hq;rw [← e] at hh;rw [ht];exact hh
 ·rcases List.mem_append.1 hq with hq | hq
  ·exact h.new q hq hn
  ·simp at hq;subst hq;rw [← e] at hn;cases hn
 ·rw [h.fresh]
  constructor
  ·rintro ⟨q,hq,hn⟩;exact ⟨q,List.mem_append_left _ hq,hn⟩
  ·rintro ⟨q,hq,hn⟩
   rcases List.mem_append.1 hq with hq | hq
   ·exact ⟨q,hq,hn⟩
   ·simp at hq;subst hq;rw [← e] at hn;cases hn
theorem PutV.add {s s' s2:Sto} {n:Nat} {l:List (ByteArray × ByteArray)} {ks:List ByteArray} {now:Int} {fr:Bool} (h:PutV s s' n l ks now fr) {p:ByteArray × ByteArray} {kk:SK} (hp:p.1∉l.map (·.1)) (hkk:KOk kk ks) (ht:mlook s'.vs (p.1,n)=none)
  (hv:s2.vs=mput s'.vs (p.1,n) ⟨p.2,kk,ks,if n<lastOf s p.1 then now else -1⟩) (hl:s2.ls=s'.ls):PutV s s2 n (l++[p]) ks now true:=by
 have e:=h.other (p.1,n) (.inr hp)
 rw [ht] at e
 have key:∀ q∈l,(q.1,n)≠(p.1,n):=fun q hq hh=>hp (List.mem_map.2 ⟨q,hq,(Prod.mk.inj hh).1⟩)
 refine ⟨fun m hm=>?_,fun q hq h' hh=>?_,fun q hq hn=>?_,⟨fun _=>⟨p,by simp,e.symm⟩,fun _=>rfl⟩,hl.trans h.ls⟩
 ·simp -implicitDefEqProofs only [List.map_append,List.mem_append,not_or] at hm
  rw [hv,mlook_put,if_neg]
  ·exact h.other m (hm.imp id (·.1))
  ·rintro rfl
   rcases hm with hm | hm
   ·exact hm rfl
   ·exact hm.2 (by simp)
 ·rw [hv,mlook_put]
  rcases List.mem_append.1 hq with hq | hq
  ·rw [if_neg (key q hq)];exact h.old q hq h' hh
  ·simp at hq;subst hq;rw [← e] at hh;cases hh
 ·rw [hv,mlook_put]
  rcases List.mem_append.1 hq with hq | hq
  ·rw [if_neg (key q hq)];exact h.new q hq hn
  ·simp at hq;subst hq;rw [if_pos rfl];exact ⟨kk,hkk,rfl⟩
theorem pairs_lt {n:Nat} {l:List (ByteArray × ByteArray)} {ks:List ByteArray} (h:MayP n l ks):∀ (i j:Nat) p q,i<j→l[i]?=some p→l[j]?=some q→strLt p.1 q.1=true
 | i,0,_,_,hij,_,_=>by omega
 | i,j+1,p,q,hij,hp,hq=>by
  have hj:=(List.getElem?_eq_some_iff.1 hq).1
  obtain ⟨r,hr⟩:=getP (l:=l) (i:=j) (by omega)
  have h1:=(h.2.2.2 (j+1) hj q hq).1 (by omega) r (by simpa using hr)
  by_cases e:i=j
  ·subst e;rw [hp] at hr;cases hr;exact h1
  ·exact lt_trans' (pairs_lt h i j p r (by omega) hp hr) h1
def TickOk (n:Int):Prop:=0≤n∧n≤1099511627776
def PutQ (b:Bk) (s:Sto) (F:Nat→Prop) (n:Nat) (l:List (ByteArray × ByteArray)) (ks:List ByteArray) (now:Int) (H:Heap):Out→Heap→Prop:=fun o H' =>
 ∃ s' F' fr,o=.val (.tup [.bool fr,.int .i64 0])∧SH H' b s' F'∧SInv s'∧PutV s s' n l ks now fr∧s'.n≤s.n+l.length∧Frm F H H'∧∀ c,F' c→F c∨(H.length≤c∧c<H'.length)
theorem put28 (b:Bk) (s:Sto) (F:Nat→Prop) (n:Nat) (k k':SK) (l:List (ByteArray × ByteArray)) (ks:List ByteArray) (now:Int) (H:Heap) (hs:SH H b s F) (hi:SInv s) (hn:s.n+l.length≤8000000) (hko:KOk k' ks) (hm:MayP n l ks) (ht:TickOk now) :
  W env (.call 42 [.ptr b.s 0,.int .u64 n,.sl k (l.map eP),.sl k' (ks.map eS),.int .i64 now]) H (PutQ b s F n l ks now H):=by
 have hks:=hm.2.1.2.2
 refine W.fnI rfl rfl rfl ?_
 simp -implicitDefEqProofs only [ir42,op,ef,cl,sq,reduceIte,q4,q5,j2,j3,j4,j5,j6,j7,j8,S1]
 refine callB_of _ _ _ _ _ _ _ _ (may43 n k k' l ks _ (by omega) (by omega)) ?_
 rintro u H1 ⟨hx1,bb,hu,hb⟩
 have hbt:bb=true:=hb.2 hm
 subst hbt
 cases hu
 simp -implicitDefEqProofs only [op,ef,cl,sq,reduceIte,q4,q5,j2,j3,j4,j5,j6,j7,j8,S1]
 refine callB_of _ _ _ _ _ _ _ _ (tick31 now _) ?_
 rintro u H1 ⟨hu,rfl⟩
 have htt:(decide (0≤now)&&decide (now≤1099511627776))=true:=by simp [ht.1,ht.2]
 rw [htt] at hu
 cases hu
 simp -implicitDefEqProofs only [op,ef,cl,sq,reduceIte,q4,q5,j2,j3,j4,j5,j6,j7,j8,S1,List.length_map]
 refine W.loopI (fun (i:Nat) R H'=>At H' (fun H'=>∃ s' F' fr,R 12=.bool fr∧SH H' b s' F'∧SInv s'∧PutV s s' n (l.take i) ks now fr∧s'.n≤s.n+i∧Frm F H H'∧∀ c,F' c→F c∨(H.length≤c∧c<H'.length))∧R 0=.ptr b.s 0∧R 1=.int .u64 n∧R 3=.sl k' (ks.map eS)∧R 4=.int .i64 now∧R 29=.sl k (l.map eP)∧R 30=.int .i64 l.length∧R 31=.int .i64 i∧i≤l.length) (fun i=>l.length-i) 0 ?_ ?_
 ·obtain ⟨im,pm,sa⟩:=hs
  refine ⟨.i ⟨s,F,false,rfl,⟨im,pm,sa.frm (ext_frm (F:=fun _=>False) hx1) (fun _ _ _ h=>h)⟩,hi,by rw [List.take_zero];exact PutV.nil s n ks now,Nat.le_refl _,ext_frm hx1,fun c h=>.inl h⟩,rfl,rfl,rfl,rfl,rfl,rfl,rfl,Nat.zero_le _⟩
 rintro i R H2 ⟨⟨s',F',fr,h12,hsh,hiv,hpv,hnn,hfr,hF⟩,h0,h1,h3,h4,h29,h30,h31,hil⟩
 by_cases hlt:i<l.length
 ·obtain ⟨p,hp⟩:=getP hlt
  have ws:=wrap_succ (show i<9223372036854775807 by omega)
  have hia:=iadX (e:=eP) (n:=2) (fun _=>rfl) (by decide) (k:=k) hp
  have hpn:p.1∉(l.take i).map (·.1):=fun hh=>by
   obtain ⟨q,hq,e⟩:=List.mem_map.1 hh
   obtain ⟨j,hj,e2⟩:=List.getElem_of_mem hq
   have hj':j<i∧j<l.length:=by simp -implicitDefEqProofs only [List.length_take] at hj;omega
   have hqj:l[j]?=some q:=by rw [← e2];simp [List.getElem?_eq_getElem hj'.2]
   have:=pairs_lt hm j i q p hj'.1 hqj hp
   rw [e,lt_irr] at this;cases this
  obtain ⟨im,pm,sa⟩:=hsh
  have l0:=glt sa.hs
  have lv:=glt sa.hv
  have ll:=glt sa.hl
  have l01:b.s<H2.length+1:=by omega
  have l02:b.s<H2.length+2:=by omega
  have ll1:b.l<H2.length+1:=by omega
  have ll2:b.l<H2.length+2:=by omega
  have lv1:b.v<H2.length+1:=by omega
  have hlk:=fun Hx z ok=>lkpB_K kNok z ok Hx (encV s'.vs) (p.1,n)
  simp -implicitDefEqProofs only [kN,eN] at hlk
  have hhd:lkpT (mlook (encV s'.vs) (p.1,n)) (.agg [.str ⟨#[]⟩,.sl .nil [],.int .i64 0]) true=.tup [encHd (hdOf (mlook s'.vs (p.1,n))),.bool (mlook s'.vs (p.1,n)).isSome]:=by
   unfold encV;rw [mlook_map]
   cases mlook s'.vs (p.1,n) <;> rfl
  have hll:=lkp_last s' p.1
  have hsl:∀ k,lastOf s' k=lastOf s k:=fun k=>by simp -implicitDefEqProofs only [lastOf,hpv.ls]
  rw [hsl] at hll
  cases e:mlook s'.vs (p.1,n) with
  | some h =>
   rw [e] at hhd
   simp -implicitDefEqProofs only [Option.isSome_some] at hhd
   simp -implicitDefEqProofs only [op,ef,cl,sq,reduceIte,q4,q5,j2,j3,j4,j5,j6,j7,j8,S1,S2,S3,List.length_set,h0,h1,h3,h4,h29,h30,h31,hlt,natOf_nat,hia,eP,sa.hs,sa.hv,l0,lv,hlk,hhd,encHd,ws]
   exact ⟨i+1,by omega,.i ⟨s',F',fr,h12,⟨im,pm,sa.frm (ext_frm (F:=fun _=>False) (((Ext.rfl'.app _).app _).app _)) (fun _ _ _ h=>h)⟩,hiv,by rw [take_sn hp];exact hpv.there hpn e,by omega,((hfr.app _).app _).app _,fun c h=>(hF c h).imp id fun h=>⟨h.1,by have:=h.2;simp;omega⟩⟩,rfl,by omega⟩
  | none =>
   rw [e] at hhd
   simp -implicitDefEqProofs only [Option.isSome_none] at hhd
   by_cases hlast:n<lastOf s p.1
   all_goals
    simp -implicitDefEqProofs only [op,ef,cl,sq,reduceIte,q4,q5,j2,j3,j4,j5,j6,j7,j8,S1,S2,S3,List.length_set,h0,h1,h3,h4,h29,h30,h31,hlt,natOf_nat,hia,eP,sa.hs,sa.hv,sa.hl,l0,l01,l02,lv,lv1,ll,ll1,ll2,hlk,hhd,encHd,lkpB_M,hll,hlast]
    refine callB_of _ _ _ _ _ _ _ _ (clone42 k' ks _ hko (by omega)) ?_
    rintro u H3 ⟨hx,kk,hkk,hu⟩
    cases hu
    have c0:H3[H2.length]?=some (.cells [.str p.1,.str p.2]):=hx.get (by rw [g_app (by simp <;> omega),g_app (by simp),g_tail rfl])
    have c1:H3[H2.length+1]?=some (.cells [.str p.1,.int .u64 n]):=hx.get (by rw [g_app (by simp),g_tail (by simp)])
    have hxx:Ext H2 H3:=((((Ext.rfl'.app _).app _).app _).trans hx)
    simp -implicitDefEqProofs only [op,ef,cl,sq,reduceIte,q4,q5,j2,j3,j4,j5,j6,j7,j8,S1,c0,c1]
    refine callB_of _ _ _ _ _ _ _ _ (put41 b s' F' p.1 n ⟨p.2,kk,ks,_⟩ _ ⟨im,pm,sa.frm (ext_frm (F:=fun _=>False) hxx) (fun _ _ _ h=>h)⟩ hiv e (by omega) ⟨hkk,by omega⟩) ?_
    rintro u H4 ⟨hu,s2,F2,hsh2,hiv2,hvs,hls,hn2,hfr2,hF2⟩
    cases hu
    have hpa:PutV s s2 n (l.take i++[p]) ks now true:=hpv.add (kk:=kk) hpn hkk e (by first | rw [if_pos hlast];exact hvs | rw [if_neg hlast];exact hvs) hls
    rw [← take_sn hp] at hpa
    simp -implicitDefEqProofs only [op,ef,cl,sq,reduceIte,q4,q5,j2,j3,j4,j5,j6,j7,j8,S1,h0,h1,h3,h4,h29,h30,h31,ws]
    exact ⟨i+1,by omega,.i ⟨s2,F2,true,rfl,hsh2,hiv2,hpa,by omega,(hfr.trans (ext_frm (F:=fun _=>False) hxx) (fun c h=>h.elim)).trans hfr2 (fun c h=>(hF c h).imp id (·.1)),fun c h=>by
     have q1:=hfr.1
     have q2:=hxx.len
     have q3:=hfr2.1
     rcases hF2 c h with h | h
     ·rcases hF c h with h | h
      ·exact .inl h
      ·exact .inr ⟨h.1,by omega⟩
     ·exact .inr ⟨by omega,h.2⟩⟩,rfl,by omega⟩
 ·have hil':i=l.length:=by omega
  subst hil'
  rw [List.take_length] at hpv
  simp -implicitDefEqProofs only [op,ef,cl,sq,reduceIte,q4,q5,j2,j3,j4,j5,j6,j7,j8,S1,h12,h30,h31,hlt]
  exact ⟨s',F',fr,rfl,hsh,hiv,hpv,hnn,hfr,hF⟩
theorem SAt.setv {H:Heap} {b:Bk} {im:List (ByteArray × T)} {pm:List (Nat × T)} {s:Sto} {F:Nat→Prop} (h:SAt H b im pm s F) (vs:List (Nm × Hd)):SAt (H.set b.v (.map (encK kN (encV vs)))) b im pm { s with vs:=vs } F:=by
 obtain ⟨n1,n2,n3,n4⟩:=h.ne
 have k:∀ {c x},c≠b.v→H[c]?=some x→(H.set b.v (.map (encK kN (encV vs))))[c]?=some x:=fun hc hx=>by rw [g_ne (Ne.symm hc)];exact hx
 exact ⟨k (Ne.symm n1) h.hs,g_eq (glt h.hv),k (Ne.symm h.vi) h.hi,k (Ne.symm h.vp) h.hp,k (Ne.symm h.vl) h.hl,h.vi,h.vp,h.vl,h.ip,h.il,h.pl,h.F0,
  fun q=>(h.oi q).keep (fun c x hc hx=>k (h.blkI hc).2.1 hx) (fun _ _ h=>h),fun q=>(h.op q).keep (fun c x hc hx=>k (h.blkP hc).2.1 hx) (fun _ _ h=>h),h.si,h.sp,h.sx,h.np⟩
theorem SAt.setl {H:Heap} {b:Bk} {im:List (ByteArray × T)} {pm:List (Nat × T)} {s:Sto} {F:Nat→Prop} (h:SAt H b im pm s F) (ls:List (ByteArray × Nat)):SAt (H.set b.l (.map (encK T.str (encL ls)))) b im pm { s with ls:=ls } F:=by
 obtain ⟨n1,n2,n3,n4⟩:=h.ne
 have k:∀ {c x},c≠b.l→H[c]?=some x→(H.set b.l (.map (encK T.str (encL ls))))[c]?=some x:=fun hc hx=>by rw [g_ne (Ne.symm hc)];exact hx
 exact ⟨k (Ne.symm n4) h.hs,k h.vl h.hv,k h.il h.hi,k h.pl h.hp,g_eq (glt h.hl),h.vi,h.vp,h.vl,h.ip,h.il,h.pl,h.F0,
  fun q=>(h.oi q).keep (fun c x hc hx=>k (h.blkI hc).2.2.2.2.1 hx) (fun _ _ h=>h),fun q=>(h.op q).keep (fun c x hc hx=>k (h.blkP hc).2.2.2.2.1 hx) (fun _ _ h=>h),h.si,h.sp,h.sx,h.np⟩
def stamped (h:Hd) (now:Int):Hd:={ h with stamp:=now }
def VS (v v':List (Nm × Hd)) (now:Int) (S:Nm→Prop):Prop:=(v'.map (·.1)).Nodup∧∀ m,(mlook v m=none→mlook v' m=none)∧∀ h,mlook v m=some h→(S m∧h.stamp=-1→mlook v' m=some (stamped h now))∧(¬ (S m∧h.stamp=-1)→mlook v' m=some h)
theorem VS.some {v v':List (Nm × Hd)} {now:Int} {S:Nm→Prop} (h:VS v v' now S) (m:Nm):(mlook v' m).isSome=(mlook v m).isSome:=by
 obtain ⟨h1,h2⟩:=h.2 m
 cases e:mlook v m with
 | none=>rw [h1 e]
 | some x =>
  by_cases hc:S m∧x.stamp=-1
  ·rw [(h2 x e).1 hc];rfl
  ·rw [(h2 x e).2 hc]
theorem VS.inv {s:Sto} (hi:SInv s) {v':List (Nm × Hd)} {now:Int} {S:Nm→Prop} (h:VS s.vs v' now S) (ls:List (ByteArray × Nat)) (hls:(ls.map (·.1)).Nodup):SInv { s with vs:=v',ls:=ls }:=by
 refine ⟨hi.rise,fun k n=>?_,hi.pnd,fun n k=>?_,h.1,fun m x hm=>?_,hi.bi,hi.bp,hls⟩
 ·show n∈s.ids k↔(mlook v' (k,n)).isSome=true
  rw [h.some];exact hi.idm k n
 ·show k∈s.pls n↔(mlook v' (k,n)).isSome=true
  rw [h.some];exact hi.plm n k
 ·have hm:mlook v' m=.some x:=hm
  obtain ⟨h1,h2⟩:=h.2 m
  cases e:mlook s.vs m with
  | none=>rw [h1 e] at hm;cases hm
  | some y =>
   have hy:=hi.kok m y e
   by_cases hc:S m∧y.stamp=-1
   ·rw [(h2 y e).1 hc] at hm;cases hm;exact hy
   ·rw [(h2 y e).2 hc] at hm;cases hm;exact hy
theorem VS.nil {v:List (Nm × Hd)} (hn:(v.map (·.1)).Nodup) {now:Int}:VS v v now (fun _=>False):=⟨hn,fun m=>⟨id,fun h e=>⟨fun hh=>hh.1.elim,fun _=>e⟩⟩⟩
theorem VS.mono {v v':List (Nm × Hd)} {now:Int} {S S':Nm→Prop} (h:VS v v' now S) (hs:∀ m,(mlook v m).isSome=true→(S m↔S' m)):VS v v' now S':=⟨h.1,fun m=>⟨(h.2 m).1,fun x e=>by
 have:=hs m (by rw [e];rfl)
 rw [← this];exact (h.2 m).2 x e⟩⟩
theorem VS.add {v v':List (Nm × Hd)} {now:Int} {S:Nm→Prop} (h:VS v v' now S) {m:Nm} {x:Hd} (hx:mlook v' m=.some x) (hc:x.stamp=-1) (hS:¬ S m):VS v (mput v' m (stamped x now)) now (fun m'=>S m'∨m'=m):=by
 refine ⟨mput_nodup h.1 _ _,fun m'=>?_⟩
 rw [mlook_put]
 by_cases e:m'=m
 ·subst e
  simp -implicitDefEqProofs only [if_true]
  have e2:=h.some m'
  rw [hx] at e2
  refine ⟨fun hn=>(by rw [hn] at e2;cases e2),fun y hy=>?_⟩
  have:y=x:=by
   have:=((h.2 m').2 y hy).2 fun hh=>hS hh.1
   rw [hx] at this;exact (Option.some.inj this).symm
  subst this
  exact ⟨fun _=>rfl,fun hh=>absurd ⟨.inr trivial,hc⟩ hh⟩
 ·simp -implicitDefEqProofs only [e,if_false,or_false]
  exact h.2 m'
theorem VS.skip {v v':List (Nm × Hd)} {now:Int} {S:Nm→Prop} (h:VS v v' now S) {m:Nm} {x:Hd} (hx:mlook v' m=.some x) (hc:x.stamp≠-1) (hS:¬ S m):VS v v' now (fun m'=>S m'∨m'=m):=by
 refine ⟨h.1,fun m'=>⟨(h.2 m').1,fun y hy=>?_⟩⟩
 by_cases e:m'=m
 ·subst e
  have:=((h.2 m').2 y hy).2 fun hh=>hS hh.1
  have e2:y=x:=by rw [hx] at this;exact (Option.some.inj this).symm
  subst e2
  exact ⟨fun hh=>absurd hh.2 hc,fun _=>hx⟩
 ·simp -implicitDefEqProofs only [e,or_false]
  exact (h.2 m').2 y hy
structure ComV (s s':Sto) (n:Nat) (now:Int) (D:List ByteArray):Prop where
 vs:VS s.vs s'.vs now (fun m=>m.1∈D∧lastOf s m.1<n∧m.2<n)
 on:∀ k,k∈D→lastOf s k<n→mlook s'.ls k=.some n
 off:∀ k,¬ (k∈D∧lastOf s k<n)→mlook s'.ls k=mlook s.ls k
 ndl:(s.ls.map (·.1)).Nodup→(s'.ls.map (·.1)).Nodup
def ComQ (b:Bk) (s:Sto) (F:Nat→Prop) (n:Nat) (now:Int) (H:Heap):Out→Heap→Prop:=fun o H'=>∃ s',o=.val (.tup [.int .i64 (s.pls n).length,.int .i64 0])∧SH H' b s' F∧SInv s'∧ComV s s' n now (s.pls n)∧s'.n=s.n∧s'.pls=s.pls∧s'.ids=s.ids∧Frm F H H'
theorem ComV.skip {s s':Sto} {n:Nat} {now:Int} {D:List ByteArray} (h:ComV s s' n now D) {k:ByteArray} (hk:n≤lastOf s k):ComV s s' n now (D++[k]):=by
 have key:∀ k',k'∈D++[k]∧lastOf s k'<n→k'∈D:=fun k' hh=>by
  rcases List.mem_append.1 hh.1 with h | h
  ·exact h
  ·simp at h;subst h;omega
 exact ⟨h.vs.mono fun m _=>⟨fun hh=>⟨List.mem_append_left _ hh.1,hh.2⟩,fun hh=>⟨key _ ⟨hh.1,hh.2.1⟩,hh.2⟩⟩,fun k' h1 h2=>h.on k' (key _ ⟨h1,h2⟩) h2,fun k' hh=>h.off k' fun h'=>hh ⟨List.mem_append_left _ h'.1,h'.2⟩,h.ndl⟩
theorem ComV.add {s s' s2:Sto} {n:Nat} {now:Int} {D:List ByteArray} (h:ComV s s' n now D) {k:ByteArray} (hk:lastOf s k<n) (hl:s2.ls=mput s'.ls k n)
  (hv:VS s.vs s2.vs now (fun m=>(m.1∈D∧lastOf s m.1<n∧m.2<n)∨(m.1=k∧m.2<n))):ComV s s2 n now (D++[k]):=by
 refine ⟨hv.mono fun m _=>?_,fun k' h1 h2=>?_,fun k' hh=>?_,fun hh=>by rw [hl];exact mput_nodup (h.ndl hh) _ _⟩
 ·simp -implicitDefEqProofs only [List.mem_append,List.mem_singleton]
  constructor
  ·rintro (⟨a,b,c⟩ | ⟨a,c⟩)
   ·exact ⟨.inl a,b,c⟩
   ·exact ⟨.inr a,by rw [a];exact hk,c⟩
  ·rintro ⟨a | a,b,c⟩
   ·exact .inl ⟨a,b,c⟩
   ·exact .inr ⟨a,c⟩
 ·rw [hl,mlook_put]
  by_cases e:k'=k
  ·rw [if_pos e]
  ·rw [if_neg e];exact h.on k' (by simpa [e] using h1) h2
 ·rw [hl,mlook_put,if_neg]
  ·exact h.off k' fun h'=>hh ⟨List.mem_append_left _ h'.1,h'.2⟩
  ·rintro rfl;exact hh ⟨by simp,hk⟩
theorem commit14 (b:Bk) (s:Sto) (F:Nat→Prop) (n:Nat) (now:Int) (H:Heap) (hs:SH H b s F) (hi:SInv s) (hn:s.n≤8000000) (hid:65536≤n) (ht:TickOk now) :
  W env (.call 43 [.ptr b.s 0,.int .u64 n,.int .i64 now]) H (ComQ b s F n now H):=by
 obtain ⟨im,pm,sa⟩:=hs
 have hid':¬ (n<65536):=by omega
 obtain ⟨t,htt⟩:∃ t,lkpT (mlook pm n) (.sl .nil []) false=t:=⟨_,rfl⟩
 have hlt:=((sa.op n).mut).len
 rw [htt] at hlt
 have hbp:=hi.bp n
 refine W.fnI rfl rfl rfl ?_
 simp -implicitDefEqProofs only [ir43,op,ef,cl,sq,reduceIte,q4,q5,j2,j3,j4,j5,j6,j7,j8,S1,hid']
 refine callB_of _ _ _ _ _ _ _ _ (tick31 now _) ?_
 rintro u H ⟨hu,rfl⟩
 have htk:(decide (0≤now)&&decide (now≤1099511627776))=true:=by simp [ht.1,ht.2]
 rw [htk] at hu
 cases hu
 simp -implicitDefEqProofs only [op,ef,cl,sq,reduceIte,q4,q5,j2,j3,j4,j5,j6,j7,j8,S1,sa.hs,sa.hp,lkpB_N,htt]
 have hl:=fun Hx (h:Mut eS 1 0 Hx t (s.pls n))=>h.len
 have hlH:∀ Hx,lenT Hx .sl t=some (s.pls n).length:=fun Hx=>by
  have:=(sa.op n).mut
  rw [htt] at this
  rcases this with ⟨e,rfl⟩ | ⟨c,rfl,_,_⟩
  ·rw [e];rfl
  ·rfl
 simp -implicitDefEqProofs only [op,ef,cl,sq,reduceIte,q4,q5,j2,j3,j4,j5,j6,j7,j8,S1,hlH]
 refine W.loopI (fun (i:Nat) R H'=>At H' (fun H'=>∃ s',SAt H' b im pm s' F∧s'.n=s.n∧s'.pls=s.pls∧s'.ids=s.ids∧ComV s s' n now ((s.pls n).take i)∧Frm F H H')∧R 0=.ptr b.s 0∧R 1=.int .u64 n∧R 2=.int .i64 now∧R 25=t∧R 26=.int .i64 (s.pls n).length∧R 27=.int .i64 i∧i≤(s.pls n).length) (fun i=>(s.pls n).length-i) 0 ?_ ?_
 ·refine ⟨.i ⟨s,sa,rfl,rfl,rfl,⟨(VS.nil hi.nd).mono fun m _=>⟨fun h=>h.elim,fun h=>by simp at h⟩,by simp,fun _ _=>rfl,id⟩,Frm.refl _ _⟩,?_,?_,?_,?_,?_,?_,Nat.zero_le _⟩
  all_goals (simp -implicitDefEqProofs only [op,ef,cl,sq,reduceIte,q4,q5,j2,j3,j4,j5,j6,j7,j8,S1];try rfl)
 rintro i R H2 ⟨⟨s',sa',hn',hpl,hids,hcv,hfr⟩,h0,h1,h2,h25,h26,h27,hil⟩
 by_cases hlt:i<(s.pls n).length
 ·obtain ⟨k,hk⟩:=getP hlt
  have ws:=wrap_succ (show i<9223372036854775807 by omega)
  have hmt:Mut eS 1 0 H2 t (s.pls n):=by
   have:=(sa'.op n).mut
   rwa [htt,hpl] at this
  obtain ⟨c,g1,g2,g3⟩:=mut_at (enc:=eS) (fun _=>rfl) hmt hk
  have hkn:k∉(s.pls n).take i:=fun hh=>by
   obtain ⟨j,hj,e2⟩:=List.getElem_of_mem hh
   have hj':j<i∧j<(s.pls n).length:=by simp -implicitDefEqProofs only [List.length_take] at hj;omega
   have hjk:(s.pls n)[j]?=some k:=by rw [← e2];simp [List.getElem?_eq_getElem hj'.2]
   have:=(List.getElem?_inj hj'.2 (hi.pnd n)).1 (hjk.trans hk.symm)
   omega
  have hlk:=lkp_last s' k
  have hls:lastOf s' k=lastOf s k:=by unfold lastOf;rw [hcv.off k fun h=>hkn h.1]
  rw [hls] at hlk
  by_cases hge:n≤lastOf s k
  ·simp -implicitDefEqProofs only [op,ef,cl,sq,reduceIte,q4,q5,j2,j3,j4,j5,j6,j7,j8,S1,h0,h1,h2,h25,h26,h27,hlt,natOf_nat,g1,g2,g3,eS,sa'.hs,sa'.hl,lkpB_M,hlk,hge,ws]
   exact ⟨i+1,by omega,.i ⟨s',sa',hn',hpl,hids,by rw [take_sn hk];exact hcv.skip hge,hfr⟩,rfl,by omega⟩
  ·have hlt2:lastOf s k<n:=by omega
   have hupl:∀ Hx,upmB (.sc .str) Hx b.l (some (.map (encK T.str (encL s'.ls)))) (.str k) (.int .u64 n)=some (undefT,Hx.set b.l (.map (encK T.str (encL (mput s'.ls k n))))):=fun Hx=>by
    rw [upmB_M];congr 4;exact congrArg (encK T.str) (mput_map (fun n:Nat=>T.int .u64 n) s'.ls k n)
   have sa3:=sa'.setl (mput s'.ls k n)
   obtain ⟨t2,htt2⟩:∃ t2,lkpT (mlook im k) (.sl .nil []) false=t2:=⟨_,rfl⟩
   have hlH2:∀ Hx,lenT Hx .sl t2=some (s.ids k).length:=fun Hx=>by
    have:=(sa.oi k).mut
    rw [htt2] at this
    rcases this with ⟨e,rfl⟩ | ⟨c,rfl,_,_⟩
    ·rw [e];rfl
    ·rfl
   simp -implicitDefEqProofs only [op,ef,cl,sq,reduceIte,q4,q5,j2,j3,j4,j5,j6,j7,j8,S1,h0,h1,h2,h25,h26,h27,hlt,natOf_nat,g1,g2,g3,eS,sa'.hs,sa'.hl,lkpB_M,hlk,hge,hupl,sa3.hs,sa3.hi,htt2,hlH2]
   refine W.loopE 2 (fun (j:Nat) R H'=>At H' (fun H'=>∃ v',SAt H' b im pm { s' with vs:=v',ls:=mput s'.ls k n } F∧VS s.vs v' now (fun m=>(m.1∈(s.pls n).take i∧lastOf s m.1<n∧m.2<n)∨(m.1=k∧m.2∈(s.ids k).take j))∧Frm F H H')∧R 0=.ptr b.s 0∧R 1=.int .u64 n∧R 2=.int .i64 now∧R 9=.str k∧R 25=t∧R 26=.int .i64 (s.pls n).length∧R 27=.int .i64 i∧R 50=t2∧R 51=.int .i64 (s.ids k).length∧R 52=.int .i64 j∧j≤(s.ids k).length∧∀ p a,p<j→(s.ids k)[p]?=some a→a<n) (fun j=>(s.ids k).length-j) 0
    (fun R H'=>At H' (fun H'=>∃ v',SAt H' b im pm { s' with vs:=v',ls:=mput s'.ls k n } F∧VS s.vs v' now (fun m=>(m.1∈(s.pls n).take i∧lastOf s m.1<n∧m.2<n)∨(m.1=k∧m.2<n))∧Frm F H H')∧R 0=.ptr b.s 0∧R 1=.int .u64 n∧R 2=.int .i64 now∧R 25=t∧R 26=.int .i64 (s.pls n).length∧R 27=.int .i64 i) ?_ ?_ ?_
   ·refine ⟨.i ⟨s'.vs,sa3,hcv.vs.mono fun m _=>⟨.inl,fun h=>h.elim id fun h=>by simp at h⟩,hfr.set (.inl sa.F0.2.2.2.2) _⟩,?_,?_,?_,?_,?_,?_,?_,?_,?_,?_,Nat.zero_le _,fun p a h=>by omega⟩
    all_goals (simp -implicitDefEqProofs only [op,ef,cl,sq,reduceIte,q4,q5,j2,j3,j4,j5,j6,j7,j8,S1,h0,h1,h2,h25,h26,h27,hlH2];try rfl)
   ·rintro j R H3 ⟨⟨v',sa4,hvs,hfr4⟩,q0,q1,q2,q9,q25,q26,q27,q50,q51,q52,hjl,hall⟩
    by_cases hj:j<(s.ids k).length
    ·obtain ⟨o,ho⟩:=getP hj
     have wj:=wrap_succ (show j<9223372036854775807 by have:=hi.bi k;omega)
     have hmt2:Mut eU 1 0 H3 t2 (s.ids k):=by
      have:=(sa4.oi k).mut
      simp -implicitDefEqProofs only [hids] at this
      rwa [htt2] at this
     obtain ⟨c2,e1,e2,e3⟩:=mut_at (enc:=eU) (fun _=>rfl) hmt2 ho
     by_cases hon:n≤o
     ·simp -implicitDefEqProofs only [op,ef,cl,sq,reduceIte,q4,q5,j2,j3,j4,j5,j6,j7,j8,S1,q0,q1,q2,q9,q25,q26,q27,q50,q51,q52,hj,natOf_nat,e1,e2,e3,eU,hon]
      refine ⟨v',sa4,hvs.mono fun m hm=>?_,hfr4⟩
      refine or_congr Iff.rfl ⟨fun ⟨a1,a2⟩=>⟨a1,?_⟩,fun ⟨a1,a2⟩=>⟨a1,?_⟩⟩
      ·obtain ⟨p,hp,e⟩:=List.getElem_of_mem a2
       have hp':p<j∧p<(s.ids k).length:=by simp -implicitDefEqProofs only [List.length_take] at hp;omega
       exact hall p m.2 hp'.1 (by rw [← e];simp [List.getElem?_eq_getElem hp'.2])
      ·have hin:=(hi.idm k m.2).2 (by rw [← a1];exact hm)
       obtain ⟨p,hp,e⟩:=List.getElem_of_mem hin
       have hpe:(s.ids k)[p]?=some m.2:=by rw [List.getElem?_eq_getElem hp,e]
       rcases Nat.lt_trichotomy p j with h | h | h
       ·exact List.mem_of_getElem? (i:=p) (by rw [List.getElem?_take,if_pos h];exact hpe)
       ·subst h;rw [ho] at hpe;cases hpe;omega
       ·have:=hi.rise k j p o m.2 h ho hpe;omega
     ·have hoi:=(hi.idm k o).1 (List.mem_of_getElem? ho)
      rw [← hvs.some] at hoi
      obtain ⟨x,hx⟩:=Option.isSome_iff_exists.1 hoi
      have hhd:=lkp_hd v' (k,o)
      rw [hx] at hhd
      have hlk2:=fun Hx z ok=>lkpB_K kNok z ok Hx (encV v') (k,o)
      simp -implicitDefEqProofs only [kN,eN] at hlk2
      have hnS:¬ (((k,o):Nm).1∈(s.pls n).take i∧lastOf s ((k,o):Nm).1<n∧((k,o):Nm).2<n∨((k,o):Nm).1=k∧((k,o):Nm).2∈(s.ids k).take j):=by
       rintro (hh | ⟨_,hh⟩)
       ·exact hkn hh.1
       ·obtain ⟨p,hp,e⟩:=List.getElem_of_mem hh
        have hp':p<j∧p<(s.ids k).length:=by simp -implicitDefEqProofs only [List.length_take] at hp;omega
        have e:((s.ids k).take j)[p]=o:=e
        have hpe:(s.ids k)[p]?=some o:=by rw [← e];simp [List.getElem?_eq_getElem hp'.2]
        have:=hi.rise k p j o o hp'.1 hpe ho;omega
      have hSS:∀ m:Nm,(((m.1∈(s.pls n).take i∧lastOf s m.1<n∧m.2<n)∨(m.1=k∧m.2∈(s.ids k).take j))∨m=(k,o))↔((m.1∈(s.pls n).take i∧lastOf s m.1<n∧m.2<n)∨(m.1=k∧m.2∈(s.ids k).take (j+1))):=fun m=>by
       rw [take_sn ho,List.mem_append,List.mem_singleton,or_assoc]
       refine or_congr Iff.rfl ?_
       constructor
       ·rintro (⟨a1,a2⟩ | rfl)
        ·exact ⟨a1,.inl a2⟩
        ·exact ⟨rfl,.inr rfl⟩
       ·rintro ⟨a1,a2 | a2⟩
        ·exact .inl ⟨a1,a2⟩
        ·exact .inr (Prod.ext a1 a2)
      have hall':∀ p a,p<j+1→(s.ids k)[p]?=some a→a<n:=fun p a hp ha=>by
       by_cases e:p=j
       ·subst e;rw [ho] at ha;cases ha;omega
       ·exact hall p a (by omega) ha
      have l0:=glt sa4.hs
      have lv:=glt sa4.hv
      have hup:=fun Hx v=>upmB_K kNok Hx b.v (encV v') (k,o) v
      simp -implicitDefEqProofs only [kN,eN] at hup
      by_cases hst:x.stamp=-1
      ·simp -implicitDefEqProofs only [op,ef,cl,sq,reduceIte,q4,q5,j2,j3,j4,j5,j6,j7,j8,S1,S2,S3,List.length_set,q0,q1,q2,q9,q25,q26,q27,q50,q51,q52,hj,natOf_nat,e1,e2,e3,eU,hon,sa4.hs,sa4.hv,hlk2,hhd,hdOf,Option.getD_some,encHd,hst,l0,lv,hup,wj]
       have e:mput (encV v') (k,o) (T.agg [T.str x.value,T.sl x.kk (x.keys.map eS),T.int IntKind.i64 now])=encV (mput v' (k,o) (stamped x now)):=mput_map encHd v' (k,o) (stamped x now)
       rw [e]
       exact ⟨j+1,by omega,.i ⟨_,(sa4.setv (mput v' (k,o) (stamped x now))).frm (ext_frm (F:=fun _=>False) (Ext.rfl'.app _)) (fun _ _ _ h=>h),(hvs.add hx hst hnS).mono fun m _=>hSS m,(hfr4.set (.inl sa.F0.2.1) _).app _⟩,rfl,by omega,hall'⟩
      ·have hst':(x.stamp==-1)=false:=by simpa using hst
       simp -implicitDefEqProofs only [op,ef,cl,sq,reduceIte,q4,q5,j2,j3,j4,j5,j6,j7,j8,S1,S2,S3,List.length_set,q0,q1,q2,q9,q25,q26,q27,q50,q51,q52,hj,natOf_nat,e1,e2,e3,eU,hon,sa4.hs,sa4.hv,hlk2,hhd,hdOf,Option.getD_some,encHd,hst',l0,lv,wj]
       exact ⟨j+1,by omega,.i ⟨v',sa4.frm (ext_frm (F:=fun _=>False) (Ext.rfl'.app _)) (fun _ _ _ h=>h),(hvs.skip hx hst hnS).mono fun m _=>hSS m,hfr4.app _⟩,rfl,by omega,hall'⟩
    ·have hje:j=(s.ids k).length:=by omega
     subst hje
     simp -implicitDefEqProofs only [op,ef,cl,sq,reduceIte,q4,q5,j2,j3,j4,j5,j6,j7,j8,S1,q0,q1,q2,q9,q25,q26,q27,q50,q51,q52,hj]
     refine ⟨v',sa4,hvs.mono fun m hm=>?_,hfr4⟩
     rw [List.take_length]
     refine or_congr Iff.rfl ⟨fun ⟨a1,a2⟩=>⟨a1,?_⟩,fun ⟨a1,a2⟩=>⟨a1,(hi.idm k m.2).2 (by rw [← a1];exact hm)⟩⟩
     obtain ⟨p,hp,e⟩:=List.getElem_of_mem a2
     exact hall p m.2 hp (by rw [List.getElem?_eq_getElem hp,e])
   ·rintro R H3 ⟨⟨v',sa4,hvs,hfr4⟩,q0,q1,q2,q25,q26,q27⟩
    simp -implicitDefEqProofs only [op,ef,cl,sq,reduceIte,q4,q5,j2,j3,j4,j5,j6,j7,j8,S1,q0,q1,q2,q25,q26,q27,ws]
    exact ⟨i+1,by omega,.i ⟨_,sa4,hn',hpl,hids,by rw [take_sn hk];exact hcv.add hlt2 rfl hvs,hfr4⟩,rfl,by omega⟩
 ·have hil':i=(s.pls n).length:=by omega
  subst hil'
  rw [List.take_length] at hcv
  simp -implicitDefEqProofs only [op,ef,cl,sq,reduceIte,q4,q5,j2,j3,j4,j5,j6,j7,j8,S1,h0,h1,h26,h27,hlt,sa'.hs,sa'.hp,lkpB_N,htt,hlH]
  exact ⟨s',rfl,⟨im,pm,sa'⟩,(hcv.vs.inv hi s'.ls (hcv.ndl hi.ndl)) |> fun h=>(by have e:s'={ s with vs:=s'.vs,ls:=s'.ls }:=(by cases s';cases s;simp_all);rw [e];exact h),hcv,hn',hpl,hids,hfr⟩
section
variable {α β γ:Type} [DecidableEq α]
theorem mcut_cons (e:α × β) (es:List (α × β)) (k:α):mcut (e :: es) k=if k=e.1 then es else e :: mcut es k:=by
 unfold mcut
 rw [List.findIdx?_cons]
 by_cases hk:k=e.1
 ·simp [hk]
 ·simp -implicitDefEqProofs only [hk,decide_false,if_false,Bool.false_eq_true]
  cases List.findIdx? (fun e=>decide (k=e.1)) es <;> simp
theorem mcut_map (f:β→γ) (es:List (α × β)) (k:α):mcut (es.map fun e=>(e.1,f e.2)) k=(mcut es k).map fun e=>(e.1,f e.2):=by
 induction es with
 | nil=>rfl
 | cons e es ih=>simp -implicitDefEqProofs only [List.map_cons,mcut_cons,ih];split <;> simp
theorem mcut_look {es:List (α × β)} (h:(es.map (·.1)).Nodup) (k k':α):mlook (mcut es k) k'=if k'=k then none else mlook es k':=by
 induction es with
 | nil=>simp [mcut,mlook_nil]
 | cons e es ih =>
  rw [List.map_cons,List.nodup_cons] at h
  rw [mcut_cons]
  by_cases hk:k=e.1
  ·subst hk
   by_cases hk':k'=e.1
   ·subst hk';simp -implicitDefEqProofs only [if_true];exact mlook_none.2 h.1
   ·simp [mlook_cons,hk']
  ·simp -implicitDefEqProofs only [hk,if_false,mlook_cons,ih h.2]
   by_cases hk':k'=e.1
   ·subst hk';simp [Ne.symm hk]
   ·simp [hk']
theorem mcut_nodup {es:List (α × β)} (h:(es.map (·.1)).Nodup) (k:α):((mcut es k).map (·.1)).Nodup:=by
 induction es with
 | nil=>simp [mcut]
 | cons e es ih =>
  rw [List.map_cons,List.nodup_cons] at h
  rw [mcut_cons];split
  ·exact h.2
  ·rw [List.map_cons,List.nodup_cons]
   refine ⟨fun hm=>h.1 ?_,ih h.2⟩
   have:mlook (mcut es k) e.1≠none:=fun hn=>mlook_none.1 hn hm
   rw [mcut_look h.2] at this
   split at this
   ·exact absurd rfl this
   ·exact Classical.byContradiction fun hh=>this (mlook_none.2 hh)
end
theorem wout_mem {α:Type} [DecidableEq α] {l:List α} {x a:α}:a∈wout l x↔a∈l∧a≠x:=by simp [wout]
theorem wout_len {α:Type} [DecidableEq α] (l:List α) (x:α):(wout l x).length≤l.length:=List.length_filter_le ..
def Sto.drop (s:Sto) (k:ByteArray) (n:Nat):Sto:=⟨mcut s.vs (k,n),s.ls,fun k'=>if k'=k then wout (s.ids k) n else s.ids k',fun n'=>if n'=n then wout (s.pls n) k else s.pls n',s.n⟩
theorem SInv.drop {s:Sto} (hi:SInv s) (k:ByteArray) (n:Nat):SInv (s.drop k n):=by
 refine ⟨fun k'=>?_,fun k' n'=>?_,fun n'=>?_,fun n' k'=>?_,mcut_nodup hi.nd _,fun m h hm=>?_,fun k'=>?_,fun n'=>?_,hi.ndl⟩
 ·simp -implicitDefEqProofs only [Sto.drop];split
  ·exact rise_pw.2 ((rise_pw.1 (hi.rise k)).sublist List.filter_sublist)
  ·exact hi.rise k'
 ·simp -implicitDefEqProofs only [Sto.drop,mcut_look hi.nd]
  by_cases e:k'=k
  ·subst e
   simp -implicitDefEqProofs only [if_true,wout_mem,hi.idm,Prod.mk.injEq,true_and]
   by_cases e2:n'=n <;> simp [e2]
  ·simp [e,hi.idm]
 ·simp -implicitDefEqProofs only [Sto.drop];split
  ·exact (hi.pnd n).sublist List.filter_sublist
  ·exact hi.pnd n'
 ·simp -implicitDefEqProofs only [Sto.drop,mcut_look hi.nd]
  by_cases e:n'=n
  ·subst e
   simp -implicitDefEqProofs only [if_true,wout_mem,hi.plm,Prod.mk.injEq,and_true]
   by_cases e2:k'=k <;> simp [e2]
  ·simp [e,hi.plm]
 ·simp -implicitDefEqProofs only [Sto.drop,mcut_look hi.nd] at hm
  split at hm
  ·cases hm
  ·exact hi.kok m h hm
 ·have:=hi.bi k'
  simp -implicitDefEqProofs only [Sto.drop];split
  ·rename_i e;subst e;exact Nat.le_trans (wout_len _ _) this
  ·exact this
 ·have:=hi.bp n'
  simp -implicitDefEqProofs only [Sto.drop];split
  ·rename_i e;subst e;exact Nat.le_trans (wout_len _ _) this
  ·exact this
def DropQ (b:Bk) (s:Sto) (F:Nat→Prop) (k:ByteArray) (n:Nat) (H:Heap):Out→Heap→Prop:=fun o H' =>
 (mlook s.vs (k,n)=none∧o=.val (.int .i64 110)∧Ext H H')∨(∃ h,mlook s.vs (k,n)=some h∧h.stamp=-1∧o=.val (.int .i64 1)∧Ext H H') ∨
 ∃ h,mlook s.vs (k,n)=some h∧h.stamp≠-1∧o=.val (.int .i64 0)∧SH H' b (s.drop k n) F∧Frm F H H'
theorem drop15 (b:Bk) (s:Sto) (F:Nat→Prop) (k:ByteArray) (n:Nat) (H:Heap) (hs:SH H b s F) (hi:SInv s) (hn:s.n≤8000000) :
  W env (.call 76 [.ptr b.s 0,.str k,.int .u64 n]) H (DropQ b s F k n H):=by
 obtain ⟨im,pm,sa⟩:=hs
 have l0:=glt sa.hs
 have lv:=glt sa.hv
 have l01:b.s<H.length+1:=by omega
 have hlk:=fun Hx z ok=>lkpB_K kNok z ok Hx (encV s.vs) (k,n)
 simp -implicitDefEqProofs only [kN,eN] at hlk
 have hhd:lkpT (mlook (encV s.vs) (k,n)) (.agg [.str ⟨#[]⟩,.sl .nil [],.int .i64 0]) true=.tup [encHd (hdOf (mlook s.vs (k,n))),.bool (mlook s.vs (k,n)).isSome]:=by
  unfold encV;rw [mlook_map]
  cases mlook s.vs (k,n) <;> rfl
 refine W.fnI rfl rfl rfl ?_
 cases e:mlook s.vs (k,n) with
 | none =>
  rw [e] at hhd
  simp -implicitDefEqProofs only [Option.isSome_none] at hhd
  simp -implicitDefEqProofs only [ir76,op,ef,cl,sq,reduceIte,q4,q5,j2,j3,j4,j5,j6,j7,j8,S1,S2,S3,List.length_set,sa.hs,sa.hv,l0,l01,lv,hlk,hhd,encHd]
  exact .inl ⟨e,rfl,((Ext.rfl'.app _).app _)⟩
 | some h =>
  rw [e] at hhd
  simp -implicitDefEqProofs only [Option.isSome_some,hdOf,Option.getD_some] at hhd
  by_cases hst:h.stamp=-1
  ·simp -implicitDefEqProofs only [ir76,op,ef,cl,sq,reduceIte,q4,q5,j2,j3,j4,j5,j6,j7,j8,S1,S2,S3,List.length_set,sa.hs,sa.hv,l0,l01,lv,hlk,hhd,encHd,hst]
   exact .inr (.inl ⟨h,e,hst,rfl,((Ext.rfl'.app _).app _)⟩)
  ·have hst':(h.stamp==-1)=false:=by simpa using hst
   have hdv:=fun Hx=>delB_K kNok Hx b.v (encV s.vs) (k,n) (v:=encHd h) (by unfold encV;rw [mlook_map,e];rfl)
   simp -implicitDefEqProofs only [kN,eN] at hdv
   have hmc:mdel (encV s.vs) (k,n)=encV (mcut s.vs (k,n)):=mcut_map encHd s.vs (k,n)
   rw [hmc] at hdv
   obtain ⟨c,hc1,hc2,hcF⟩:∃ c,mlook im k=some (.msl c 0 (s.ids k).length 1)∧H[c]?=some (.cells (msC eU (s.ids k)))∧F c:=by
    have:=sa.oi k
    cases em:mlook im k with
    | none =>
     rw [em] at this
     have h0:s.ids k=[]:=this
     have:=(hi.idm k n).2 (by rw [e];rfl)
     rw [h0] at this;cases this
    | some t=>rw [em] at this;obtain ⟨c,rfl,h1,h2⟩:=this;exact ⟨c,rfl,h1,h2⟩
   obtain ⟨d,hd1,hd2,hdF⟩:∃ d,mlook pm n=some (.msl d 0 (s.pls n).length 1)∧H[d]?=some (.cells (msC eS (s.pls n)))∧F d:=by
    have:=sa.op n
    cases em:mlook pm n with
    | none =>
     rw [em] at this
     have h0:s.pls n=[]:=this
     have:=(hi.plm n k).2 (by rw [e];rfl)
     rw [h0] at this;cases this
    | some t=>rw [em] at this;obtain ⟨c,rfl,h1,h2⟩:=this;exact ⟨c,rfl,h1,h2⟩
   have bc:=sa.blkI (k:=k) (c:=c) (by rw [hc1];rfl)
   have bd:=sa.blkP (n:=n) (c:=d) (by rw [hd1];rfl)
   have hcd:c≠d:=fun h=>sa.sx k n c (by rw [hc1];rfl) (by rw [hd1,h];rfl)
   obtain ⟨n1,n2,n3,n4⟩:=sa.ne
   have li:=glt sa.hi
   simp -implicitDefEqProofs only [ir76,op,ef,cl,sq,reduceIte,q4,q5,j2,j3,j4,j5,j6,j7,j8,S1,S2,S3,List.length_set,sa.hs,sa.hv,l0,l01,lv,hlk,hhd,encHd,hst',hdv,n1,sa.hi,li,sa.vi,lkpB_M,hc1]
   generalize hH1:H.set b.v (B.map (encK kN (encV (mcut s.vs (k,n)))))++[B.cells [T.str k,T.int IntKind.u64 n]]++[B.cells [T.str h.value,T.sl h.kk (h.keys.map eS),T.int IntKind.i64 h.stamp]]=H1
   have len1:H1.length=H.length+2:=by rw [← hH1];simp
   have keep1:∀ {c x},c≠b.v→H[c]?=some x→H1[c]?=some x:=fun hc hx=>by
    have:=glt hx
    rw [← hH1,g_app (by simp;omega),g_app (by simpa using this),g_ne (Ne.symm hc)];exact hx
   have v1:H1[b.v]?=some (.map (encK kN (encV (mcut s.vs (k,n))))):=by rw [← hH1,g_app (by simp;omega),g_app (by simpa using lv),g_eq lv]
   have s1:=keep1 (Ne.symm n1) sa.hs
   have i1:=keep1 (Ne.symm sa.vi) sa.hi
   have p1:=keep1 (Ne.symm sa.vp) sa.hp
   have w1:=keep1 (Ne.symm sa.vl) sa.hl
   refine callB_of _ _ _ _ _ _ _ _ (wo32 c (s.ids k) n H1 (keep1 bc.2.1 hc2) (by have:=hi.bi k;omega)) ?_
   rintro u H2 ⟨hu,c2,fr2⟩
   cases hu
   have keep2:∀ {a x},a≠c→H1[a]?=some x→H2[a]?=some x:=fun ha hx=>fr2.get hx ha
   have s2:=keep2 (Ne.symm bc.1) s1
   have v2:=keep2 (Ne.symm bc.2.1) v1
   have i2:=keep2 (Ne.symm bc.2.2.1) i1
   have p2:=keep2 (Ne.symm bc.2.2.2.1) p1
   have w2:=keep2 (Ne.symm bc.2.2.2.2.1) w1
   have d2:=keep2 (Ne.symm hcd) (keep1 bd.2.1 hd2)
   obtain ⟨H3,hH3⟩:∃ H3,H3=H2.set b.i (.map (encK T.str (mput im k (.msl c 0 (wout (s.ids k) n).length 1)))):=⟨_,rfl⟩
   have keep3:∀ {a x},a≠b.i→H2[a]?=some x→H3[a]?=some x:=fun ha hx=>by rw [hH3,g_ne (Ne.symm ha)];exact hx
   have s3:=keep3 (Ne.symm n2) s2
   have v3:=keep3 sa.vi v2
   have i3:H3[b.i]?=some (.map (encK T.str (mput im k (.msl c 0 (wout (s.ids k) n).length 1)))):=by rw [hH3,g_eq (glt i2)]
   have p3:=keep3 (Ne.symm sa.ip) p2
   have w3:=keep3 (Ne.symm sa.il) w2
   have c3:=keep3 bc.2.2.1 c2
   have d3:=keep3 bd.2.2.1 d2
   simp -implicitDefEqProofs only [op,ef,cl,sq,reduceIte,q4,q5,j2,j3,j4,j5,j6,j7,j8,S1,s2,i2,upmB_M,← hH3,s3,p3,lkpB_N,hd1]
   refine callB_of _ _ _ _ _ _ _ _ (wo33 d (s.pls n) k H3 d3 (by have:=hi.bp n;omega)) ?_
   rintro u H4 ⟨hu,d4,fr4⟩
   cases hu
   have keep4:∀ {a x},a≠d→H3[a]?=some x→H4[a]?=some x:=fun ha hx=>fr4.get hx ha
   have s4:=keep4 (Ne.symm bd.1) s3
   have v4:=keep4 (Ne.symm bd.2.1) v3
   have i4:=keep4 (Ne.symm bd.2.2.1) i3
   have p4:=keep4 (Ne.symm bd.2.2.2.1) p3
   have w4:=keep4 (Ne.symm bd.2.2.2.2.1) w3
   have c4:=keep4 hcd c3
   obtain ⟨H5,hH5⟩:∃ H5,H5=H4.set b.p (.map (encK kU (mput pm n (.msl d 0 (wout (s.pls n) k).length 1)))):=⟨_,rfl⟩
   have keep5:∀ {a x},a≠b.p→H4[a]?=some x→H5[a]?=some x:=fun ha hx=>by rw [hH5,g_ne (Ne.symm ha)];exact hx
   have s5:=keep5 (Ne.symm n3) s4
   have p5:H5[b.p]?=some (.map (encK kU (mput pm n (.msl d 0 (wout (s.pls n) k).length 1)))):=by rw [hH5,g_eq (glt p4)]
   have l2:mlook (mput pm n (.msl d 0 (wout (s.pls n) k).length 1)) n=some (.msl d 0 (wout (s.pls n) k).length 1):=by rw [mlook_put,if_pos rfl]
   have len5:H5.length=H4.length:=by rw [hH5];simp
   have len3:H3.length=H2.length:=by rw [hH3];simp
   have keepP:∀ {a x},a≠b.v→a≠c→a≠b.i→a≠d→a≠b.p→H[a]?=some x→H5[a]?=some x:=fun e1 e2 e3 e4 e5 hx=>keep5 e5 (keep4 e4 (keep3 e3 (keep2 e2 (keep1 e1 hx))))
   have frF:Frm F H H5:=⟨by have:=fr2.1;have:=fr4.1;omega,fun a ha hF=>by
    obtain ⟨x,hx⟩:=getP ha
    have ne:∀ {c'},F c'→a≠c':=fun h e=>hF (e ▸ h)
    rw [hx]
    exact keepP (ne sa.F0.2.1) (ne hcF) (ne sa.F0.2.2.1) (ne hdF) (ne sa.F0.2.2.2.1) hx⟩
   have hdl:=fun Hx=>delB_K kNat Hx b.p (mput pm n (.msl d 0 (wout (s.pls n) k).length 1)) n l2
   simp -implicitDefEqProofs only [kU] at hdl
   have fin:∀ (pm':List (Nat × T)) (H6:Heap),(∀ n',mlook pm' n'=if n'=n then mlook pm' n else mlook pm n')→Own eS F H5 (mlook pm' n) (wout (s.pls n) k)→(∀ a,blk (mlook pm' n)=some a→a=d)→(pm'.map (·.1)).Nodup→H6[b.p]?=some (.map (encK kU pm'))→(∀ {a x},a≠b.p→H5[a]?=some x→H6[a]?=some x)→SAt H6 b (mput im k (.msl c 0 (wout (s.ids k) n).length 1)) pm' (s.drop k n) F:=by
    intro pm' H6 hl ho hb hnd hp hk
    have kI:∀ {k' a x},k'≠k→blk (mlook im k')=some a→H[a]?=some x→H6[a]?=some x:=fun {k' a x} hkk ha hx=>by
     obtain ⟨e1,e2,e3,e4,e5,_,e6⟩:=sa.blkI ha
     exact hk e4 (keepP e2 (fun e=>hkk (sa.si k' k c (e ▸ ha) (by rw [hc1];rfl))) e3 (fun e=>sa.sx k' n d (e ▸ ha) (by rw [hd1];rfl)) e4 hx)
    have kP:∀ {n' a x},n'≠n→blk (mlook pm n')=some a→H[a]?=some x→H6[a]?=some x:=fun {n' a x} hkk ha hx=>by
     obtain ⟨e1,e2,e3,e4,e5,_,e6⟩:=sa.blkP ha
     exact hk e4 (keepP e2 (fun e=>sa.sx k n' c (by rw [hc1];rfl) (e ▸ ha)) e3 (fun e=>hkk (sa.sp n' n d (e ▸ ha) (by rw [hd1];rfl))) e4 hx)
    have bI:∀ k' a,blk (mlook (mput im k (.msl c 0 (wout (s.ids k) n).length 1)) k')=some a→blk (mlook im k')=some a:=fun k' a ha=>by
     rw [mlook_put] at ha
     split at ha
     ·rename_i e;subst e;rw [hc1];exact ha
     ·exact ha
    have bP:∀ n' a,blk (mlook pm' n')=some a→blk (mlook pm n')=some a:=fun n' a ha=>by
     rw [hl] at ha
     split at ha
     ·rename_i e;subst e;rw [hd1,hb a ha];rfl
     ·exact ha
    refine ⟨hk (Ne.symm n3) s5,hk sa.vp (keep5 sa.vp v4),hk sa.ip (keep5 sa.ip i4),hp,hk (Ne.symm sa.pl) (keep5 (Ne.symm sa.pl) w4),sa.vi,sa.vp,sa.vl,sa.ip,sa.il,sa.pl,sa.F0,fun k'=>?_,fun n'=>?_,fun k1 k2 a h1 h2=>sa.si k1 k2 a (bI _ _ h1) (bI _ _ h2),fun k1 k2 a h1 h2=>sa.sp k1 k2 a (bP _ _ h1) (bP _ _ h2),fun k1 k2 a h1 h2=>sa.sx k1 k2 a (bI _ _ h1) (bP _ _ h2),hnd⟩
    ·simp -implicitDefEqProofs only [Sto.drop,mlook_put]
     by_cases e:k'=k
     ·simp -implicitDefEqProofs only [e,if_true]
      exact ⟨c,rfl,hk bc.2.2.2.1 (keep5 bc.2.2.2.1 c4),hcF⟩
     ·simp -implicitDefEqProofs only [e,if_false]
      exact (sa.oi k').keep (fun a x ha hx=>kI e ha hx) fun _ _ h=>h
    ·rw [hl]
     simp -implicitDefEqProofs only [Sto.drop]
     by_cases e:n'=n
     ·simp -implicitDefEqProofs only [e,if_true]
      refine ho.keep (fun a x ha hx=>hk ?_ hx) fun _ _ h=>h
      rw [hb a ha];exact bd.2.2.2.1
     ·simp -implicitDefEqProofs only [e,if_false]
      exact (sa.op n').keep (fun a x ha hx=>kP e ha hx) fun _ _ h=>h
   by_cases hz:(wout (s.pls n) k).length=0
   ·have hz':((wout (s.pls n) k).length=0)=True:=eq_true hz
    simp -implicitDefEqProofs only [op,ef,cl,sq,reduceIte,q4,q5,j2,j3,j4,j5,j6,j7,j8,S1,s4,p4,upmB_N,← hH5,s5,p5,lkpB_N,l2,hz',hdl]
    refine .inr (.inr ⟨h,e,hst,rfl,⟨_,_,fin (mdel (mput pm n (.msl d 0 (wout (s.pls n) k).length 1)) n) _ (fun n'=>?_) ?_ (fun a ha=>?_) (mdel_nodup (mput_nodup sa.np _ _) _) (g_eq (glt p5)) (fun ha hx=>by rw [g_ne (Ne.symm ha)];exact hx)⟩,frF.set (.inl sa.F0.2.2.2.1) _⟩)
    ·simp -implicitDefEqProofs only [mdel_look (mput_nodup sa.np _ _),mlook_put];split <;> simp
    ·rw [mdel_look (mput_nodup sa.np _ _),if_pos rfl];exact List.eq_nil_of_length_eq_zero hz
    ·rw [mdel_look (mput_nodup sa.np _ _),if_pos rfl] at ha;cases ha
   ·simp -implicitDefEqProofs only [op,ef,cl,sq,reduceIte,q4,q5,j2,j3,j4,j5,j6,j7,j8,S1,s4,p4,upmB_N,← hH5,s5,p5,lkpB_N,l2,hz]
    refine .inr (.inr ⟨h,e,hst,rfl,⟨_,_,fin _ H5 (fun n'=>?_) ?_ (fun a ha=>?_) (mput_nodup sa.np _ _) p5 (fun _ h=>h)⟩,frF⟩)
    ·simp -implicitDefEqProofs only [mlook_put];split <;> simp
    ·rw [l2];exact ⟨d,rfl,keep5 bd.2.2.2.1 d4,hdF⟩
    ·rw [l2] at ha;cases ha;rfl
abbrev rdy (n:Nat) (R0:Regs) (ps:List Nat) (asg body:C):B:=.loop .ready Option.none n R0 ps asg body
abbrev bsy (n:Nat) (R0:Regs) (ps:List Nat) (asg body:C):B:=.loop .busy Option.none n R0 ps asg body
theorem ext_of {H H':Heap} (h:∀ (c:Nat) x,H[c]?=some x→H'[c]?=some x):Ext H H':=by
 have hl:H.length≤H'.length:=by
  rcases Nat.eq_zero_or_pos H.length with h0 | h0
  ·omega
  ·obtain ⟨x,hx⟩:=getP (l:=H) (i:=H.length-1) (by omega)
   have:=glt (h _ x hx)
   omega
 refine ⟨H'.drop H.length,List.ext_getElem? fun i=>?_⟩
 by_cases hi:i<H.length
 ·obtain ⟨x,hx⟩:=getP hi
  rw [List.getElem?_append_left hi,hx,h i x hx]
 ·rw [List.getElem?_append_right (by omega),List.getElem?_drop]
  congr 1;omega
def deadT (H:Heap):T→Heap
 | .msl b _ _ _=>H.set b .dead
 | _=>H
theorem dead_len (H:Heap) (t:T):(deadT H t).length=H.length:=by cases t <;> simp [deadT]
theorem dead_get {H:Heap} {t:T} {a:Nat} (h:∀ off len m,t≠.msl a off len m):(deadT H t)[a]?=H[a]?:=by
 cases t with
 | msl b off len m=>exact g_ne (fun e=>h off len m (by rw [e]))
 | _=>rfl
theorem appM_fun {α:Type} {enc:α→List T} {n n0 bytes:Nat} (hn:∀ x,(enc x).length=n) {H:Heap} {t:T} {l:List α} (h:Mut enc n n0 H t l) (v:α) (hr:roomOk (l.length+1) bytes=true):appM H n bytes t [enc v]=some (.msl H.length 0 (l.length+1) n,deadT H t++[.cells (msC enc (l++[v]))]):=by
 have happ:msC enc l++enc v=msC enc (l++[v]):=by simp [msC]
 rcases h with ⟨rfl,rfl⟩ | ⟨b,rfl,hb,_⟩
 ·simp -implicitDefEqProofs only [List.length_nil,Nat.zero_add] at hr
  simp [appM,hr,deadT,msC]
 ·have hc:l.length*n=(msC enc l).length:=(msC_len hn l).symm
  simp [appM,hb,hc,hr,deadT,happ]
theorem arr_get {α:Type} [Inhabited α] {d:Array α} {i:Nat} (h:i<d.size):d.toList[i]?=some d[i]!:=by
 rw [Array.getElem?_toList,Array.getElem?_eq_getElem h,getElem!_pos d i h]
theorem swp_list {α:Type} [Inhabited α] (d:Array α) (i j:Nat):(Go.Sort.swp d i j).toList=(d.toList.set i d[j]!).set j d[i]!:=by
 simp [Go.Sort.swp,Array.toList_setIfInBounds]
theorem swp_size {α:Type} [Inhabited α] (d:Array α) (i j:Nat):(Go.Sort.swp d i j).size=d.size:=by simp [Go.Sort.swp]
def ltM (a b:Nm):Bool:=decide (cmpM a b<0)
theorem map_get {β:Type} {K:Option β→Prop} {A:Array UInt8} {n:Nat} (hn:n<A.size) (f:UInt8→β) (h:∀ c,K (some (f c))):K (Option.map f A[n]?):=by rw [Array.getElem?_eq_getElem hn];exact h _
theorem lenN (n:Nat) (hn:n<256) (H:Heap):W env (.call 107 [.int .u64 n]) H (fun o H'=>H'=H∧∃ m:Nat,o=.val (.int .i64 m)):=by
 refine W.fnI rfl rfl rfl ?_
 simp -implicitDefEqProofs only [ir107,op,ef,cl,sq,reduceIte,q4,q5,j2,j3,j4,j5,j6,j7,j8,S1]
 refine callB_of _ _ _ _ _ _ _ (fun o H'=>H'=H∧∃ m:Nat,o=.val (.int .i64 m)) ?_ ?_
 ·refine W.fnI rfl rfl rfl ?_
  have h1:¬ (4294967296≤n):=by omega
  have h2:¬ (65536≤n):=by omega
  have h3:¬ (256≤n):=by omega
  have w8':=wrap8 hn
  simp -implicitDefEqProofs only [ir149,op,ef,cl,sq,reduceIte,q4,q5,j2,j3,j4,j5,j6,j7,j8,S1,h1,h2,h3,w8',natOf_nat]
  refine map_get (K:=stepB env _ _ _ _ _ _ _ _) (by show n<256;exact hn) _ fun ch=>?_
  have hch:ch.toNat<256:=ch.toNat_lt
  have wc:IntKind.i64.wrap ((ch.toNat:Nat):Int)=((ch.toNat:Nat):Int):=wrap64 (by omega)
  have wc2:IntKind.i64.wrap (0+((ch.toNat:Nat):Int))=((ch.toNat:Nat):Int):=by rw [wrap64 (by omega)];omega
  simp -implicitDefEqProofs only [op,ef,cl,sq,reduceIte,q4,q5,j2,j3,j4,j5,j6,j7,j8,S1,wc,wc2]
  exact ⟨ch.toNat,rfl⟩
 ·rintro u H' ⟨rfl,m,hu⟩
  cases hu
  simp -implicitDefEqProofs only [op,ef,cl,sq,reduceIte,q4,q5,j2,j3,j4,j5,j6,j7,j8,S1]
  exact ⟨m,rfl⟩
end Go.Proofs.YtmgldhlcapjdkaaGreat.St
end

section

end

section

end

section

end

section

end

section

end

section

end

section

end

section

end

section

end

section
namespace Go.Proofs.YtmgldhlcapjdkaaGreat.St
open Go.Rmp Go.Proofs.YtmgldhlcapjdkaaGreat.Ir
set_option maxRecDepth 10000
theorem ltM_iff (a b:Nm):ltM a b=true↔strLt a.1 b.1=true∨(a.1=b.1∧a.2<b.2):=by
 unfold ltM cmpM or2 cmpS cmpN
 rw [decide_eq_true_eq]
 cases h1:strLt a.1 b.1
 ·cases h2:strLt b.1 a.1
  ·have e:=lt_tri h1 h2
   simp -implicitDefEqProofs only [Bool.false_eq_true,if_false,if_true,false_or,e,true_and]
   split
   ·simp [*]
   ·split <;> simp [*]
  ·have hne:a.1≠b.1:=by intro e;rw [e,lt_irr] at h2;cases h2
   simp [hne]
 ·simp
theorem ltM_irr (a:Nm):ltM a a=false:=by
 cases h:ltM a a with
 | false=>rfl
 | true=>rcases (ltM_iff a a).1 h with h | h;rw [lt_irr] at h;cases h;omega
theorem ltM_trans {a b c:Nm} (h1:ltM a b=true) (h2:ltM b c=true):ltM a c=true:=by
 rw [ltM_iff] at h1 h2 ⊢
 rcases h1 with h1 | ⟨e1,h1⟩ <;> rcases h2 with h2 | ⟨e2,h2⟩
 ·exact .inl (lt_trans' h1 h2)
 ·exact .inl (e2 ▸ h1)
 ·exact .inl (e1 ▸ h2)
 ·exact .inr ⟨e1.trans e2,by omega⟩
theorem ltM_tri {a b:Nm} (h1:ltM a b=false) (h2:ltM b a=false):a=b:=by
 have n1:¬ (strLt a.1 b.1=true∨(a.1=b.1∧a.2<b.2)):=fun h=>by rw [(ltM_iff a b).2 h] at h1;cases h1
 have n2:¬ (strLt b.1 a.1=true∨(b.1=a.1∧b.2<a.2)):=fun h=>by rw [(ltM_iff b a).2 h] at h2;cases h2
 have e1:a.1=b.1:=lt_tri (by cases h:strLt a.1 b.1 with | false=>rfl | true=>exact absurd (.inl h) n1) (by cases h:strLt b.1 a.1 with | false=>rfl | true=>exact absurd (.inl h) n2)
 have q1:¬ a.2<b.2:=fun h=>n1 (.inr ⟨e1,h⟩)
 have q2:¬ b.2<a.2:=fun h=>n2 (.inr ⟨e1.symm,h⟩)
 exact Prod.ext e1 (by omega)
theorem ltM_swo:Go.Sort.SWO ltM where
 irrefl:=ltM_irr
 trans _ _ _ h1 h2:=ltM_trans h1 h2
 ntrans x y z h1 h2:=by
  cases h:ltM x z with
  | false=>rfl
  | true =>
   cases h3:ltM y x with
   | true=>rw [ltM_trans h3 h] at h2;cases h2
   | false=>have:=ltM_tri h1 h3;subst this;rw [h] at h2;cases h2
end Go.Proofs.YtmgldhlcapjdkaaGreat.St
end

section

end

section

end

section

end

section
namespace Go.Proofs.YtmgldhlcapjdkaaGreat.St
open Go.Rmp Go.Proofs.YtmgldhlcapjdkaaGreat.Ir
set_option maxRecDepth 10000
theorem sorted_listF {d:Array Nm} (hn:d.toList.Nodup):(Go.Sort.sort ltM d).toList.Perm d.toList∧(Go.Sort.sort ltM d).toList.Pairwise (fun a b=>ltM a b=true):=by
 obtain ⟨⟨hs,_,hp⟩,hsort⟩:=Go.Sort.sort_sorts ltM ltM_swo d
 have e1:(Go.Sort.sort ltM d).extract 0 d.size=Go.Sort.sort ltM d:=by
  conv=>lhs;arg 3;rw [← hs]
  simp
 have hperm:(Go.Sort.sort ltM d).toList.Perm d.toList:=by
  rw [e1] at hp
  simpa using hp
 refine ⟨hperm,?_⟩
 have hn2:(Go.Sort.sort ltM d).toList.Nodup:=hperm.nodup_iff.2 hn
 rw [List.pairwise_iff_getElem]
 intro i j hi hj hij
 have h1:=hsort i j (Nat.zero_le _) hij (by rw [← hs];simpa using hj)
 have gi:=arr_get (d:=Go.Sort.sort ltM d) (i:=i) (by simpa using hi)
 have gj:=arr_get (d:=Go.Sort.sort ltM d) (i:=j) (by simpa using hj)
 rw [List.getElem?_eq_getElem hi] at gi
 rw [List.getElem?_eq_getElem hj] at gj
 rw [Option.some.inj gi,Option.some.inj gj]
 cases h:ltM (Go.Sort.sort ltM d)[i]! (Go.Sort.sort ltM d)[j]! with
 | true=>rfl
 | false =>
  have e:=ltM_tri h h1
  rw [← Option.some.inj gi,← Option.some.inj gj] at e
  have:=(List.getElem_inj hn2).1 e
  omega
theorem mut_n {α:Type} {enc:α→List T} {n:Nat} (hn:∀ x,(enc x).length=n) (h0:n≠0) {n0:Nat} {H:Heap} {t:T} {l:List α} (hm:Mut enc n n0 H t l) {i:Nat} {x:α} (hx:l[i]?=some x):∃ b,H[b]?=some (.cells (msC enc l))∧iadT n i t=some (.ptr b (i*n))∧ldcB n (i*n) (some (.cells (msC enc l)))=some (enc x):=by
 have hi:=(List.getElem?_eq_some_iff.1 hx).1
 rcases hm with ⟨rfl,_⟩ | ⟨b,rfl,hb,_⟩
 ·simp at hi
 ·refine ⟨b,hb,by rw [iad_m];simp [hi,h0],?_⟩
  have:=msC_get hn hx 0 n (by omega)
  simp -implicitDefEqProofs only [Nat.add_zero,List.drop_zero] at this
  rw [this,List.take_of_length_le (by rw [hn];omega)]
theorem sorted_eq:∀ (l l':List Nm),l.Pairwise (fun a b=>ltM a b=true)→l'.Pairwise (fun a b=>ltM a b=true)→(∀ x,x∈l↔x∈l')→l=l'
 | [],[],_,_,_=>rfl
 | [],b :: l',_,_,h=>by have:=(h b).2 (by simp);simp at this
 | a :: l,[],_,_,h=>by have:=(h a).1 (by simp);simp at this
 | a :: l,b :: l',h1,h2,h=>by
  rw [List.pairwise_cons] at h1 h2
  have e:a=b:=by
   rcases List.mem_cons.1 ((h a).1 (by simp)) with e | e
   ·exact e
   ·rcases List.mem_cons.1 ((h b).2 (by simp)) with e2 | e2
    ·exact e2.symm
    ·have q1:=h2.1 a e
     have q2:=h1.1 b e2
     have:=ltM_trans q1 q2
     rw [ltM_irr] at this;cases this
  subst e
  rw [sorted_eq l l' h1.2 h2.2 fun x=>?_]
  have hx:=h x
  simp -implicitDefEqProofs only [List.mem_cons] at hx
  constructor
  ·intro hm
   rcases hx.1 (.inr hm) with e | e
   ·subst e;have:=h1.1 x hm;rw [ltM_irr] at this;cases this
   ·exact e
  ·intro hm
   rcases hx.2 (.inr hm) with e | e
   ·subst e;have:=h2.1 x hm;rw [ltM_irr] at this;cases this
   ·exact e
theorem mem_keys {α β:Type} [DecidableEq α] {es:List (α × β)} {k:α}:k∈es.map (·.1)↔(mlook es k).isSome=true:=by
 cases h:mlook es k with
 | none=>simp [mlook_none.1 h]
 | some v =>
  simp -implicitDefEqProofs only [Option.isSome_some,iff_true]
  exact List.mem_map.2 ⟨_,mlook_mem h,rfl⟩
theorem len_eq {α:Type} {l l':List α} (h1:l.Nodup) (h2:l'.Nodup) (h:∀ x,x∈l↔x∈l'):l.length=l'.length:=((List.perm_ext_iff_of_nodup h1 h2).2 h).length_eq
def tA:ByteArray:=⟨#[97]⟩
def tB:ByteArray:=⟨#[98]⟩
def tX:ByteArray:=⟨#[120]⟩
def tY:ByteArray:=⟨#[121]⟩
def tZ:ByteArray:=⟨#[122]⟩
abbrev l1:List (ByteArray × ByteArray):=[(tA,tX),(tB,tY)]
abbrev l2:List (ByteArray × ByteArray):=[(tA,tZ)]
theorem SH.ext {H H':Heap} {b:Bk} {s:Sto} {F:Nat→Prop} (h:SH H b s F) (hx:Ext H H'):SH H' b s F:=by
 obtain ⟨im,pm,sa⟩:=h
 exact ⟨im,pm,sa.frm (ext_frm (F:=fun _=>False) hx) (fun _ _ _ h=>h)⟩
theorem Frm.more {H H' H'':Heap} {G:Nat→Prop} (h:Frm (fun _=>False) H H') (h':Frm G H' H'') (hg:∀ c,G c→H.length≤c):Frm (fun _=>False) H H'':=h.trans h' fun c hc=>.inr (hg c hc)
theorem Frm.ext {H H' H'':Heap} {F:Nat→Prop} (h:Frm F H H') (h':Ext H' H''):Frm F H H'':=h.trans (ext_frm (F:=fun _=>False) h') fun c hc=>hc.elim
theorem frm_ext {H H':Heap} (h:Frm (fun _=>False) H H'):Ext H H':=ext_of fun c x hx=>h.get hx id
end Go.Proofs.YtmgldhlcapjdkaaGreat.St
end

section

end

section

end

section

end

section
namespace Go.Proofs.YtmgldhlcapjdkaaGreat.St
open Go.Rmp Go.Proofs.YtmgldhlcapjdkaaGreat.Ir
set_option maxRecDepth 10000
def SrtS (c:Nat) (d':Array ByteArray) (H:Heap):Out→Heap→Prop:=fun o H'=>o=.val (.tup [])∧H'[c]?=some (.cells (msC eS d'.toList))∧Frm (fun x=>x=c) H H'
theorem swp_setS {Hx:Heap} {c:Nat} (d:Array ByteArray) {i j:Nat} (hi:i<d.size) (hj:j<d.size) :
  stcB Hx c [.str d[j]!] (i*1) (some (.cells (msC eS d.toList)))=some (Hx.set c (.cells (msC eS (d.toList.set i d[j]!)))) ∧
  ∀ Hy,stcB Hy c [.str d[i]!] (j*1) (some (.cells (msC eS (d.toList.set i d[j]!))))=some (Hy.set c (.cells (msC eS (Go.Sort.swp d i j).toList))):=by
 have g1:=msC_set (enc:=eS) (n:=1) (y:=d[j]!) (fun _=>rfl) (arr_get hi) Hx c (eS d[j]!) 0 (by simp [eS]) (by simp [eS])
 obtain ⟨z,hz⟩:=getP (l:=d.toList.set i d[j]!) (i:=j) (by simpa using hj)
 have g2:=fun Hy=>msC_set (enc:=eS) (n:=1) (y:=d[i]!) (fun _=>rfl) hz Hy c (eS d[i]!) 0 (by simp [eS]) (by simp [eS])
 refine ⟨by simpa [eS] using g1,fun Hy=>?_⟩
 rw [swp_list]
 simpa [eS] using g2 Hy
theorem ld_atS {d:Array ByteArray} {i:Nat} (h:i<d.size):ldcB 1 (i*1) (some (.cells (msC eS d.toList)))=some [.str d[i]!]:=by
 have:=msC_get (enc:=eS) (n:=1) (fun _=>rfl) (arr_get h) 0 1 (by decide)
 simpa [eS] using this
open Go.Sort in
theorem ins85 (c:Nat) (d:Array ByteArray) (a b:Nat) (H:Heap) (hc:H[c]?=some (.cells (msC eS d.toList))) (hb:b≤d.size) (hab:a≤b) (hs:d.size<4611686018427387903) :
  W env (.call 198 [.msl c 0 d.size 1,.int .i64 a,.int .i64 b]) H (SrtS c (insertionSort strLt d a b) H):=by
 refine W.fnI rfl rfl rfl ?_
 have wa:=wrap_succ (show a<9223372036854775807 by omega)
 simp -implicitDefEqProofs only [ir198,op,ef,cl,sq,reduceIte,q4,q5,j2,j3,j4,j5,j6,j7,j8,S1,wa]
 refine W.loopI (fun (i:Nat) R H'=>At H' (fun H'=>∃ di:Array ByteArray,H'[c]?=some (.cells (msC eS di.toList))∧di.size=d.size∧insOuter strLt a b i di=insertionSort strLt d a b∧Frm (fun x=>x=c) H H')∧R 0=.msl c 0 d.size 1∧R 1=.int .i64 a∧R 2=.int .i64 b∧R 6=.int .i64 i∧a+1≤i) (fun i=>b-i) (a+1) ⟨.i ⟨d,hc,rfl,rfl,Frm.refl _ _⟩,rfl,rfl,rfl,rfl,Nat.le_refl _⟩ ?_
 rintro i R H1 ⟨⟨di,hd,hsz,hins,hfr⟩,h0,h1,h2,h6,hia⟩
 by_cases hlt:i<b
 ·have wi:=wrap_succ (show i<9223372036854775807 by omega)
  simp -implicitDefEqProofs only [op,ef,cl,sq,reduceIte,q4,q5,j2,j3,j4,j5,j6,j7,j8,S1,h0,h1,h2,h6,hlt]
  refine W.loopE 2 (fun (j:Nat) R H'=>At H' (fun H'=>∃ dj:Array ByteArray,H'[c]?=some (.cells (msC eS dj.toList))∧dj.size=d.size∧insInner strLt a j dj=insInner strLt a i di∧Frm (fun x=>x=c) H H')∧R 0=.msl c 0 d.size 1∧R 1=.int .i64 a∧R 2=.int .i64 b∧R 6=.int .i64 i∧R 7=.int .i64 j∧j≤i) (fun j=>j) i
   (fun R H'=>At H' (fun H'=>∃ dj:Array ByteArray,H'[c]?=some (.cells (msC eS dj.toList))∧dj.size=d.size∧dj=insInner strLt a i di∧Frm (fun x=>x=c) H H')∧R 0=.msl c 0 d.size 1∧R 1=.int .i64 a∧R 2=.int .i64 b∧R 6=.int .i64 i) ?_ ?_ ?_
  ·refine ⟨.i ⟨di,hd,hsz,rfl,hfr⟩,?_,?_,?_,?_,?_,Nat.le_refl _⟩
   all_goals (simp -implicitDefEqProofs only [op,ef,cl,sq,reduceIte,q4,q5,j2,j3,j4,j5,j6,j7,j8,S1,h0,h1,h2,h6])
  ·rintro j R H2 ⟨⟨dj,hd2,hsz2,hinn,hfr2⟩,q0,q1,q2,q6,q7,hji⟩
   by_cases hja:a<j
   ·obtain ⟨j',rfl⟩:∃ j',j=j'+1:=⟨j-1,by omega⟩
    have wp:IntKind.i64.wrap (((j'+1:Nat):Int)-1)=(j':Int):=by rw [wrap64 (by omega)];omega
    have j1:j'+1<d.size:=by omega
    have j0:j'<d.size:=by omega
    have i1:iadT 1 (j'+1) (.msl c 0 d.size 1)=some (.ptr c ((j'+1)*1)):=by rw [iad_m];simp [j1]
    have i0:iadT 1 j' (.msl c 0 d.size 1)=some (.ptr c (j'*1)):=by rw [iad_m];simp [j0]
    have v1:=ld_atS (d:=dj) (i:=j'+1) (by omega)
    have v0:=ld_atS (d:=dj) (i:=j') (by omega)
    simp -implicitDefEqProofs only [op,ef,cl,sq,reduceIte,q4,q5,j2,j3,j4,j5,j6,j7,j8,S1,q0,q1,q2,q6,q7,hja,natOf_nat,i1,i0,wp,hd2,v1,v0]
    refine callB_of _ _ _ _ _ _ _ _ (less91 dj[j'+1]! dj[j']! _) ?_
    rintro u H3 ⟨hu,rfl⟩
    cases hu
    have hd3:=hd2
    obtain ⟨s1,s2⟩:=swp_setS (Hx:=H3) (c:=c) dj (i:=j'+1) (j:=j') (by omega) (by omega)
    cases hc0:strLt dj[j'+1]! dj[j']! with
    | true =>
     simp -implicitDefEqProofs only [op,ef,cl,sq,reduceIte,q4,q5,j2,j3,j4,j5,j6,j7,j8,S1,q0,q1,q2,q6,q7,natOf_nat,i1,i0,wp,hd3,v1,v0,s1,S2,s2,glt hd3]
     exact ⟨j',by omega,.i ⟨swp dj (j'+1) j',g_eq (by rw [List.length_set];exact glt hd3),by rw [swp_size];exact hsz2,by rw [← hinn];conv=>{ rhs;rw [insInner,if_pos (by simp -implicitDefEqProofs only [Bool.and_eq_true,decide_eq_true_eq];exact ⟨hja,hc0⟩)] },(hfr2.set (.inl rfl) _).set (.inl rfl) _⟩,rfl,by omega⟩
    | false =>
     simp -implicitDefEqProofs only [op,ef,cl,sq,reduceIte,q4,q5,j2,j3,j4,j5,j6,j7,j8,S1,q0,q1,q2,q6,q7]
     exact .i ⟨dj,hd3,hsz2,by rw [← hinn,insInner];simp [hc0],hfr2⟩
   ·simp -implicitDefEqProofs only [op,ef,cl,sq,reduceIte,q4,q5,j2,j3,j4,j5,j6,j7,j8,S1,q0,q1,q2,q6,q7,hja]
    refine .i ⟨dj,hd2,hsz2,?_,hfr2⟩
    rw [← hinn]
    cases j with
    | zero=>rfl
    | succ j=>rw [insInner,if_neg (by simp -implicitDefEqProofs only [Bool.and_eq_true,decide_eq_true_eq];omega)]
  ·rintro R H2 ⟨⟨dj,hd2,hsz2,hinn,hfr2⟩,q0,q1,q2,q6⟩
   simp -implicitDefEqProofs only [op,ef,cl,sq,reduceIte,q4,q5,j2,j3,j4,j5,j6,j7,j8,S1,q0,q1,q2,q6,wi]
   refine ⟨i+1,by omega,.i ⟨dj,hd2,hsz2,?_,hfr2⟩,rfl,by omega⟩
   rw [← hins,hinn]
   conv=>rhs;rw [insOuter,if_pos hlt]
 ·simp -implicitDefEqProofs only [op,ef,cl,sq,reduceIte,q4,q5,j2,j3,j4,j5,j6,j7,j8,S1,h0,h1,h2,h6,hlt]
  rw [insOuter,if_neg hlt] at hins
  subst hins
  exact ⟨rfl,hd,hfr⟩
theorem strLt_swo:Go.Sort.SWO strLt where
 irrefl:=lt_irr
 trans _ _ _ h1 h2:=lt_trans' h1 h2
 ntrans x y z h1 h2:=by
  cases h:strLt x z with
  | false=>rfl
  | true =>
   cases h3:strLt y x with
   | true=>rw [lt_trans' h3 h] at h2;cases h2
   | false=>have:=lt_tri h1 h3;subst this;rw [h] at h2;cases h2
open Go.Sort in
theorem pdqS69 (c:Nat) (d:Array ByteArray) (m:Nat) (H:Heap) (hc:H[c]?=some (.cells (msC eS d.toList))) (hs:d.size≤12) :
  W env (.call 181 [.msl c 0 d.size 1,.int .i64 0,.int .i64 d.size,.int .i64 m]) H (SrtS c (insertionSort strLt d 0 d.size) H):=by
 refine W.fnI rfl rfl rfl ?_
 have w1:IntKind.i64.wrap ((d.size:Int)-0)=(d.size:Int):=by rw [wrap64 (by omega)];omega
 have h12:(d.size:Int)≤12:=by omega
 simp -implicitDefEqProofs only [ir181,op,ef,cl,sq,reduceIte,q4,q5,j2,j3,j4,j5,j6,j7,j8,S1]
 refine W.loopI (fun (_:Nat) R H'=>H'=H∧R 0=.msl c 0 d.size 1∧R 1=.int .i64 0∧R 2=.int .i64 d.size) (fun _=>0) 0 ⟨rfl,rfl,rfl,rfl⟩ ?_
 rintro _ R _ ⟨rfl,h0,h1,h2⟩
 simp -implicitDefEqProofs only [op,ef,cl,sq,reduceIte,q4,q5,j2,j3,j4,j5,j6,j7,j8,S1,h0,h1,h2,w1,hs]
 refine callB_of _ _ _ _ _ _ _ _ (ins85 c d 0 d.size _ hc (Nat.le_refl _) (Nat.zero_le _) (by omega)) ?_
 rintro u H2 ⟨hu,q1,q2⟩
 cases hu
 simp -implicitDefEqProofs only [op,ef,cl,sq,reduceIte,q4,q5,j2,j3,j4,j5,j6,j7,j8,S1]
 exact ⟨rfl,q1,q2⟩
open Go.Sort in
theorem sortS55 (c:Nat) (d:Array ByteArray) (H:Heap) (hc:H[c]?=some (.cells (msC eS d.toList))) (hs:d.size≤12) :
  W env (.call 152 [.msl c 0 d.size 1]) H (SrtS c (insertionSort strLt d 0 d.size) H):=by
 refine W.fnI rfl rfl rfl ?_
 have w1:IntKind.u64.wrap (d.size:Int)=(d.size:Int):=wrapu (by omega)
 simp -implicitDefEqProofs only [ir152,op,ef,cl,sq,reduceIte,q4,q5,j2,j3,j4,j5,j6,j7,j8,S1,w1]
 refine callB_of _ _ _ _ _ _ _ _ (lenN d.size (by omega) _) ?_
 rintro u H1 ⟨rfl,m,hu⟩
 cases hu
 simp -implicitDefEqProofs only [op,ef,cl,sq,reduceIte,q4,q5,j2,j3,j4,j5,j6,j7,j8,S1]
 refine callB_of _ _ _ _ _ _ _ _ (pdqS69 c d m _ hc hs) ?_
 rintro u H2 ⟨hu,q1,q2⟩
 cases hu
 simp -implicitDefEqProofs only [op,ef,cl,sq,reduceIte,q4,q5,j2,j3,j4,j5,j6,j7,j8,S1]
 exact ⟨rfl,q1,q2⟩
end Go.Proofs.YtmgldhlcapjdkaaGreat.St
end

section
namespace Go.Proofs.YtmgldhlcapjdkaaGreat.St.Um
open Go.Rmp Go.Proofs.YtmgldhlcapjdkaaGreat.Ir
set_option maxRecDepth 10000
def ltN (a b:Nat):Bool:=decide (a<b)
theorem less91 (a b:Nat) (H:Heap):W env (.call 145 [.int .u64 a,.int .u64 b]) H (Ret (.bool (ltN a b)) H):=less71 a b H
theorem ltN_swo:Go.Sort.SWO ltN where
 irrefl a:=by simp [ltN]
 trans a b c h1 h2:=by simp [ltN] at *;omega
 ntrans x y z h1 h2:=by simp [ltN] at *;omega
def SrtS (c:Nat) (d':Array Nat) (H:Heap):Out→Heap→Prop:=fun o H'=>o=.val (.tup [])∧H'[c]?=some (.cells (msC eU d'.toList))∧Frm (fun x=>x=c) H H'
theorem swp_setS {Hx:Heap} {c:Nat} (d:Array Nat) {i j:Nat} (hi:i<d.size) (hj:j<d.size) :
  stcB Hx c [.int .u64 (d[j]!:Nat)] (i*1) (some (.cells (msC eU d.toList)))=some (Hx.set c (.cells (msC eU (d.toList.set i d[j]!)))) ∧
  ∀ Hy,stcB Hy c [.int .u64 (d[i]!:Nat)] (j*1) (some (.cells (msC eU (d.toList.set i d[j]!))))=some (Hy.set c (.cells (msC eU (Go.Sort.swp d i j).toList))):=by
 have g1:=msC_set (enc:=eU) (n:=1) (y:=d[j]!) (fun _=>rfl) (arr_get hi) Hx c (eU d[j]!) 0 (by simp [eU]) (by simp [eU])
 obtain ⟨z,hz⟩:=getP (l:=d.toList.set i d[j]!) (i:=j) (by simpa using hj)
 have g2:=fun Hy=>msC_set (enc:=eU) (n:=1) (y:=d[i]!) (fun _=>rfl) hz Hy c (eU d[i]!) 0 (by simp [eU]) (by simp [eU])
 refine ⟨by simpa [eU] using g1,fun Hy=>?_⟩
 rw [swp_list]
 simpa [eU] using g2 Hy
theorem ld_atS {d:Array Nat} {i:Nat} (h:i<d.size):ldcB 1 (i*1) (some (.cells (msC eU d.toList)))=some [.int .u64 (d[i]!:Nat)]:=by
 have:=msC_get (enc:=eU) (n:=1) (fun _=>rfl) (arr_get h) 0 1 (by decide)
 simpa [eU] using this
open Go.Sort in
theorem ins85 (c:Nat) (d:Array Nat) (a b:Nat) (H:Heap) (hc:H[c]?=some (.cells (msC eU d.toList))) (hb:b≤d.size) (hab:a≤b) (hs:d.size<4611686018427387903) :
  W env (.call 139 [.msl c 0 d.size 1,.int .i64 a,.int .i64 b]) H (SrtS c (insertionSort ltN d a b) H):=by
 refine W.fnI rfl rfl rfl ?_
 have wa:=wrap_succ (show a<9223372036854775807 by omega)
 simp -implicitDefEqProofs only [ir139,op,ef,cl,sq,reduceIte,q4,q5,j2,j3,j4,j5,j6,j7,j8,S1,wa]
 refine W.loopI (fun (i:Nat) R H'=>At H' (fun H'=>∃ di:Array Nat,H'[c]?=some (.cells (msC eU di.toList))∧di.size=d.size∧insOuter ltN a b i di=insertionSort ltN d a b∧Frm (fun x=>x=c) H H')∧R 0=.msl c 0 d.size 1∧R 1=.int .i64 a∧R 2=.int .i64 b∧R 6=.int .i64 i∧a+1≤i) (fun i=>b-i) (a+1) ⟨.i ⟨d,hc,rfl,rfl,Frm.refl _ _⟩,rfl,rfl,rfl,rfl,Nat.le_refl _⟩ ?_
 rintro i R H1 ⟨⟨di,hd,hsz,hins,hfr⟩,h0,h1,h2,h6,hia⟩
 by_cases hlt:i<b
 ·have wi:=wrap_succ (show i<9223372036854775807 by omega)
  simp -implicitDefEqProofs only [op,ef,cl,sq,reduceIte,q4,q5,j2,j3,j4,j5,j6,j7,j8,S1,h0,h1,h2,h6,hlt]
  refine W.loopE 2 (fun (j:Nat) R H'=>At H' (fun H'=>∃ dj:Array Nat,H'[c]?=some (.cells (msC eU dj.toList))∧dj.size=d.size∧insInner ltN a j dj=insInner ltN a i di∧Frm (fun x=>x=c) H H')∧R 0=.msl c 0 d.size 1∧R 1=.int .i64 a∧R 2=.int .i64 b∧R 6=.int .i64 i∧R 7=.int .i64 j∧j≤i) (fun j=>j) i
   (fun R H'=>At H' (fun H'=>∃ dj:Array Nat,H'[c]?=some (.cells (msC eU dj.toList))∧dj.size=d.size∧dj=insInner ltN a i di∧Frm (fun x=>x=c) H H')∧R 0=.msl c 0 d.size 1∧R 1=.int .i64 a∧R 2=.int .i64 b∧R 6=.int .i64 i) ?_ ?_ ?_
  ·refine ⟨.i ⟨di,hd,hsz,rfl,hfr⟩,?_,?_,?_,?_,?_,Nat.le_refl _⟩
   all_goals (simp -implicitDefEqProofs only [op,ef,cl,sq,reduceIte,q4,q5,j2,j3,j4,j5,j6,j7,j8,S1,h0,h1,h2,h6])
  ·rintro j R H2 ⟨⟨dj,hd2,hsz2,hinn,hfr2⟩,q0,q1,q2,q6,q7,hji⟩
   by_cases hja:a<j
   ·obtain ⟨j',rfl⟩:∃ j',j=j'+1:=⟨j-1,by omega⟩
    have wp:IntKind.i64.wrap (((j'+1:Nat):Int)-1)=(j':Int):=by rw [wrap64 (by omega)];omega
    have j1:j'+1<d.size:=by omega
    have j0:j'<d.size:=by omega
    have i1:iadT 1 (j'+1) (.msl c 0 d.size 1)=some (.ptr c ((j'+1)*1)):=by rw [iad_m];simp [j1]
    have i0:iadT 1 j' (.msl c 0 d.size 1)=some (.ptr c (j'*1)):=by rw [iad_m];simp [j0]
    have v1:=ld_atS (d:=dj) (i:=j'+1) (by omega)
    have v0:=ld_atS (d:=dj) (i:=j') (by omega)
    simp -implicitDefEqProofs only [op,ef,cl,sq,reduceIte,q4,q5,j2,j3,j4,j5,j6,j7,j8,S1,q0,q1,q2,q6,q7,hja,natOf_nat,i1,i0,wp,hd2,v1,v0]
    refine callB_of _ _ _ _ _ _ _ _ (less91 dj[j'+1]! dj[j']! _) ?_
    rintro u H3 ⟨hu,rfl⟩
    cases hu
    have hd3:=hd2
    obtain ⟨s1,s2⟩:=swp_setS (Hx:=H3) (c:=c) dj (i:=j'+1) (j:=j') (by omega) (by omega)
    cases hc0:ltN dj[j'+1]! dj[j']! with
    | true =>
     simp -implicitDefEqProofs only [op,ef,cl,sq,reduceIte,q4,q5,j2,j3,j4,j5,j6,j7,j8,S1,q0,q1,q2,q6,q7,natOf_nat,i1,i0,wp,hd3,v1,v0,s1,S2,s2,glt hd3]
     exact ⟨j',by omega,.i ⟨swp dj (j'+1) j',g_eq (by rw [List.length_set];exact glt hd3),by rw [swp_size];exact hsz2,by rw [← hinn];conv=>{ rhs;rw [insInner,if_pos (by simp -implicitDefEqProofs only [Bool.and_eq_true,decide_eq_true_eq];exact ⟨hja,hc0⟩)] },(hfr2.set (.inl rfl) _).set (.inl rfl) _⟩,rfl,by omega⟩
    | false =>
     simp -implicitDefEqProofs only [op,ef,cl,sq,reduceIte,q4,q5,j2,j3,j4,j5,j6,j7,j8,S1,q0,q1,q2,q6,q7]
     exact .i ⟨dj,hd3,hsz2,by rw [← hinn,insInner];simp [hc0],hfr2⟩
   ·simp -implicitDefEqProofs only [op,ef,cl,sq,reduceIte,q4,q5,j2,j3,j4,j5,j6,j7,j8,S1,q0,q1,q2,q6,q7,hja]
    refine .i ⟨dj,hd2,hsz2,?_,hfr2⟩
    rw [← hinn]
    cases j with
    | zero=>rfl
    | succ j=>rw [insInner,if_neg (by simp -implicitDefEqProofs only [Bool.and_eq_true,decide_eq_true_eq];omega)]
  ·rintro R H2 ⟨⟨dj,hd2,hsz2,hinn,hfr2⟩,q0,q1,q2,q6⟩
   simp -implicitDefEqProofs only [op,ef,cl,sq,reduceIte,q4,q5,j2,j3,j4,j5,j6,j7,j8,S1,q0,q1,q2,q6,wi]
   refine ⟨i+1,by omega,.i ⟨dj,hd2,hsz2,?_,hfr2⟩,rfl,by omega⟩
   rw [← hins,hinn]
   conv=>rhs;rw [insOuter,if_pos hlt]
 ·simp -implicitDefEqProofs only [op,ef,cl,sq,reduceIte,q4,q5,j2,j3,j4,j5,j6,j7,j8,S1,h0,h1,h2,h6,hlt]
  rw [insOuter,if_neg hlt] at hins
  subst hins
  exact ⟨rfl,hd,hfr⟩
open Go.Sort in
theorem pdqS69 (c:Nat) (d:Array Nat) (m:Nat) (H:Heap) (hc:H[c]?=some (.cells (msC eU d.toList))) (hs:d.size≤12) :
  W env (.call 106 [.msl c 0 d.size 1,.int .i64 0,.int .i64 d.size,.int .i64 m]) H (SrtS c (insertionSort ltN d 0 d.size) H):=by
 refine W.fnI rfl rfl rfl ?_
 have w1:IntKind.i64.wrap ((d.size:Int)-0)=(d.size:Int):=by rw [wrap64 (by omega)];omega
 have h12:(d.size:Int)≤12:=by omega
 simp -implicitDefEqProofs only [ir106,op,ef,cl,sq,reduceIte,q4,q5,j2,j3,j4,j5,j6,j7,j8,S1]
 refine W.loopI (fun (_:Nat) R H'=>H'=H∧R 0=.msl c 0 d.size 1∧R 1=.int .i64 0∧R 2=.int .i64 d.size) (fun _=>0) 0 ⟨rfl,rfl,rfl,rfl⟩ ?_
 rintro _ R _ ⟨rfl,h0,h1,h2⟩
 simp -implicitDefEqProofs only [op,ef,cl,sq,reduceIte,q4,q5,j2,j3,j4,j5,j6,j7,j8,S1,h0,h1,h2,w1,hs]
 refine callB_of _ _ _ _ _ _ _ _ (ins85 c d 0 d.size _ hc (Nat.le_refl _) (Nat.zero_le _) (by omega)) ?_
 rintro u H2 ⟨hu,q1,q2⟩
 cases hu
 simp -implicitDefEqProofs only [op,ef,cl,sq,reduceIte,q4,q5,j2,j3,j4,j5,j6,j7,j8,S1]
 exact ⟨rfl,q1,q2⟩
open Go.Sort in
theorem sortS55 (c:Nat) (d:Array Nat) (H:Heap) (hc:H[c]?=some (.cells (msC eU d.toList))) (hs:d.size≤12) :
  W env (.call 56 [.msl c 0 d.size 1]) H (SrtS c (insertionSort ltN d 0 d.size) H):=by
 refine W.fnI rfl rfl rfl ?_
 have w1:IntKind.u64.wrap (d.size:Int)=(d.size:Int):=wrapu (by omega)
 simp -implicitDefEqProofs only [ir56,op,ef,cl,sq,reduceIte,q4,q5,j2,j3,j4,j5,j6,j7,j8,S1,w1]
 refine callB_of _ _ _ _ _ _ _ _ (lenN d.size (by omega) _) ?_
 rintro u H1 ⟨rfl,m,hu⟩
 cases hu
 simp -implicitDefEqProofs only [op,ef,cl,sq,reduceIte,q4,q5,j2,j3,j4,j5,j6,j7,j8,S1]
 refine callB_of _ _ _ _ _ _ _ _ (pdqS69 c d m _ hc hs) ?_
 rintro u H2 ⟨hu,q1,q2⟩
 cases hu
 simp -implicitDefEqProofs only [op,ef,cl,sq,reduceIte,q4,q5,j2,j3,j4,j5,j6,j7,j8,S1]
 exact ⟨rfl,q1,q2⟩
end Go.Proofs.YtmgldhlcapjdkaaGreat.St.Um
end

section
namespace Go.Proofs.YtmgldhlcapjdkaaGreat.St
open Go.Rmp Go.Proofs.YtmgldhlcapjdkaaGreat.Ir
set_option maxRecDepth 10000
def UpS (l:List ByteArray):Prop:=∀ (i j:Nat) a b,i<j→l[i]?=some a→l[j]?=some b→strLt b a=false
def SortI (N:Nat):Prop:=∀ (c:Nat) (l:List Nat) (H:Heap),H[c]?=some (.cells (msC eU l))→l.length≤N→W env (.call 56 [.msl c 0 l.length 1]) H (fun o H'=>o=.val (.tup [])∧∃ l',H'[c]?=some (.cells (msC eU l'))∧l'.Perm l∧l'.Pairwise (·≤·)∧Frm (fun x=>x=c) H H')
def SortT (N:Nat):Prop:=∀ (c:Nat) (l:List ByteArray) (H:Heap),H[c]?=some (.cells (msC eS l))→l.length≤N→W env (.call 152 [.msl c 0 l.length 1]) H (fun o H'=>o=.val (.tup [])∧∃ l',H'[c]?=some (.cells (msC eS l'))∧l'.Perm l∧UpS l'∧Frm (fun x=>x=c) H H')
theorem ord_of {α:Type} [Inhabited α] {lt:α→α→Bool} {d e:Array α} (hs:e.size=d.size) (hp:(e.extract 0 d.size).toList.Perm (d.extract 0 d.size).toList) (hsort:∀ i j,0≤i→i<j→j<d.size→lt e[j]! e[i]! = false) :
  e.toList.Perm d.toList∧∀ (i j:Nat) a b,i<j→e.toList[i]?=some a→e.toList[j]?=some b→lt b a=false:=by
 have e1:e.extract 0 d.size=e:=by
  conv=>lhs;arg 3;rw [← hs]
  simp
 have hperm:e.toList.Perm d.toList:=by
  rw [e1] at hp
  simpa using hp
 refine ⟨hperm,fun i j a b hij ha hb=>?_⟩
 have hi:=(List.getElem?_eq_some_iff.1 ha).1
 have hj:=(List.getElem?_eq_some_iff.1 hb).1
 have h1:=hsort i j (Nat.zero_le _) hij (by rw [← hs];simpa using hj)
 have gi:=arr_get (d:=e) (i:=i) (by simpa using hi)
 have gj:=arr_get (d:=e) (i:=j) (by simpa using hj)
 rw [ha] at gi;rw [hb] at gj
 cases gi;cases gj
 exact h1
theorem up_of {l:List Nat} {lt:Nat→Nat→Bool} (hlt:∀ a b,lt a b=decide (a<b)) (h:∀ (i j:Nat) a b,i<j→l[i]?=some a→l[j]?=some b→lt b a=false):l.Pairwise (·≤·):=by
 rw [List.pairwise_iff_getElem]
 intro i j hi hj hij
 have:=h i j _ _ hij (List.getElem?_eq_getElem hi) (List.getElem?_eq_getElem hj)
 rw [hlt,decide_eq_false_iff_not] at this
 omega
theorem sortI12:SortI 12:=fun c l H hc hl=>by
 have harr:l.toArray.toList=l:=List.toList_toArray
 have h:=Um.sortS55 c l.toArray H (by rw [harr];exact hc) (by simpa using hl)
 have hsz:l.toArray.size=l.length:=by simp
 rw [hsz] at h
 refine W.use h fun o H' ⟨hu,hd,hf⟩=>?_
 obtain ⟨⟨hs,_,hp⟩,hsort⟩:=Go.Sort.insertionSort_holds (lt:=Um.ltN) Um.ltN_swo l.toArray 0 l.toArray.size (Nat.zero_le _) (Nat.le_refl _)
 rw [← hsz] at hd
 obtain ⟨h1,h2⟩:=ord_of hs hp hsort
 exact ⟨hu,_,hd,by rw [harr] at h1;exact h1,up_of (fun _ _=>rfl) h2,hf⟩
theorem sortT12:SortT 12:=fun c l H hc hl=>by
 have harr:l.toArray.toList=l:=List.toList_toArray
 have h:=sortS55 c l.toArray H (by rw [harr];exact hc) (by simpa using hl)
 have hsz:l.toArray.size=l.length:=by simp
 rw [hsz] at h
 refine W.use h fun o H' ⟨hu,hd,hf⟩=>?_
 obtain ⟨⟨hs,_,hp⟩,hsort⟩:=Go.Sort.insertionSort_holds (lt:=strLt) strLt_swo l.toArray 0 l.toArray.size (Nat.zero_le _) (Nat.le_refl _)
 rw [← hsz] at hd
 obtain ⟨h1,h2⟩:=ord_of hs hp hsort
 exact ⟨hu,_,hd,by rw [harr] at h1;exact h1,h2,hf⟩
structure Vd where
 value:ByteArray
 keys:List ByteArray
 stamp:Int
def Hd.vd (h:Hd):Vd:=⟨h.value,h.keys,h.stamp⟩
structure Ab where
 v:Nm→Option Vd
 l:ByteArray→Option Nat
def Ab.last (a:Ab) (k:ByteArray):Nat:=(a.l k).getD 0
def Ab.has (a:Ab) (m:Nm):Bool:=(a.v m).isSome
def absS (s:Sto):Ab:=⟨fun m=>(mlook s.vs m).map Hd.vd,fun k=>mlook s.ls k⟩
def Ab.emp:Ab:=⟨fun _=>none,fun _=>none⟩
def Ab.put (a:Ab) (n:Nat) (l:List (ByteArray × ByteArray)) (ks:List ByteArray) (now:Int):Ab :=
 ⟨fun m=>match a.v m with
  | some h=>some h
  | none=>if m.2=n then (mlook l m.1).map fun v=>⟨v,ks,if n<a.last m.1 then now else -1⟩ else none,a.l⟩
def Ab.fresh (a:Ab) (n:Nat) (l:List (ByteArray × ByteArray)):Bool:=l.any fun p=>!a.has (p.1,n)
def Ab.com (a : Ab) (n : Nat) (now : Int) : Ab :=
  ⟨fun m => (a.v m).map fun h => if h.stamp = -1 ∧ a.has (m.1, n) = true ∧ a.last m.1 < n ∧ m.2 < n then { h with stamp := now } else h,
   fun k => if a.has (k, n) = true ∧ a.last k < n then some n else a.l k⟩
def Ab.cut (a:Ab) (m0:Nm):Ab:=⟨fun m=>if m=m0 then none else a.v m,a.l⟩
theorem ab_ext {a b:Ab} (h1:∀ m,a.v m=b.v m) (h2:∀ k,a.l k=b.l k):a=b:=by
 cases a;cases b;simp -implicitDefEqProofs only [Ab.mk.injEq];exact ⟨funext h1,funext h2⟩
theorem mlook_of {α β:Type} [DecidableEq α] {es:List (α × β)} (hn:(es.map (·.1)).Nodup) {p:α × β} (hp:p∈es):mlook es p.1=some p.2:=by
 induction es with
 | nil=>cases hp
 | cons e es ih =>
  rw [List.map_cons,List.nodup_cons] at hn
  rw [mlook_cons]
  rcases List.mem_cons.1 hp with rfl | hp
  ·simp
  ·rw [if_neg,ih hn.2 hp]
   intro h
   exact hn.1 (h ▸ List.mem_map.2 ⟨p,hp,rfl⟩)
theorem PutV.abs {s s':Sto} {n:Nat} {l:List (ByteArray × ByteArray)} {ks:List ByteArray} {now:Int} {fr:Bool} (h:PutV s s' n l ks now fr) (hn:(l.map (·.1)).Nodup):absS s'=(absS s).put n l ks now:=by
 refine ab_ext (fun m=>?_) fun k=>by simp -implicitDefEqProofs only [absS,Ab.put,h.ls]
 simp -implicitDefEqProofs only [absS,Ab.put]
 by_cases hm:m.2=n∧m.1∈l.map (·.1)
 ·obtain ⟨rfl,hm⟩:=hm
  obtain ⟨p,hp,hpm⟩:=List.mem_map.1 hm
  have e:m=(p.1,m.2):=by rw [hpm]
  cases hl:mlook s.vs m with
  | some x =>
   have:=h.old p hp x (by rw [← e];exact hl)
   rw [← e] at this
   simp [this]
  | none =>
   obtain ⟨kk,_,h2⟩:=h.new p hp (by rw [← e];exact hl)
   rw [← e] at h2
   have h3:=mlook_of hn hp
   rw [hpm] at h3 h2
   simp -implicitDefEqProofs only [h2,h3,Hd.vd,Option.map_some,Option.map_none,if_true];rfl
 ·have h1:=h.other m (by
   by_cases e:m.2=n
   ·exact .inr fun h=>hm ⟨e,h⟩
   ·exact .inl e)
  rw [h1]
  cases hl:mlook s.vs m with
  | some x=>simp
  | none =>
   simp -implicitDefEqProofs only [Option.map_none]
   split
   ·rename_i e
    rw [mlook_none.2 fun h=>hm ⟨e,h⟩];rfl
   ·rfl
theorem PutV.fr {s s':Sto} {n:Nat} {l:List (ByteArray × ByteArray)} {ks:List ByteArray} {now:Int} {fr:Bool} (h:PutV s s' n l ks now fr):fr=(absS s).fresh n l:=by
 rw [Bool.eq_iff_iff,h.fresh]
 simp -implicitDefEqProofs only [Ab.fresh,List.any_eq_true,Ab.has,absS,Option.isSome_map,Bool.not_eq_true',Option.isSome_eq_false_iff,Option.isNone_iff_eq_none]
theorem ComV.abs {s s':Sto} {n:Nat} {now:Int} (hi:SInv s) (h:ComV s s' n now (s.pls n)):absS s'=(absS s).com n now:=by
 have hp:∀ k,k∈s.pls n↔(absS s).has (k,n)=true:=fun k=>by rw [hi.plm];simp [Ab.has,absS]
 have hlast:∀ k,lastOf s k=(absS s).last k:=fun _=>rfl
 have hv:∀ m,(absS s).v m=(mlook s.vs m).map Hd.vd:=fun _=>rfl
 have hl':∀ k,(absS s).l k=mlook s.ls k:=fun _=>rfl
 obtain ⟨a,ha⟩:∃ a,a=absS s:=⟨_,rfl⟩
 rw [← ha] at hp hlast hv hl' ⊢
 refine ab_ext (fun m=>?_) fun k=>?_
 ·obtain ⟨h1,h2⟩:=h.vs.2 m
  show (mlook s'.vs m).map Hd.vd=(a.v m).map _
  rw [hv]
  cases hl:mlook s.vs m with
  | none=>rw [h1 hl];rfl
  | some x =>
   obtain ⟨h3,h4⟩:=h2 x hl
   by_cases hc:(m.1∈s.pls n∧lastOf s m.1<n∧m.2<n)∧x.stamp=-1
   ·rw [h3 hc]
    simp -implicitDefEqProofs only [Option.map_some,Option.some.injEq]
    rw [if_pos ⟨hc.2,(hp _).1 hc.1.1,hlast _ ▸ hc.1.2.1,hc.1.2.2⟩];rfl
   ·rw [h4 hc]
    simp -implicitDefEqProofs only [Option.map_some,Option.some.injEq]
    rw [if_neg]
    rintro ⟨a,b,c,d⟩
    exact hc ⟨⟨(hp _).2 b,by rw [hlast];exact c,d⟩,a⟩
 ·show mlook s'.ls k=if _ then _ else a.l k
  rw [hl']
  by_cases hc:k∈s.pls n∧lastOf s k<n
  ·rw [h.on k hc.1 hc.2,if_pos ⟨(hp _).1 hc.1,by rw [← hlast];exact hc.2⟩]
  ·rw [h.off k hc,if_neg fun hh=>hc ⟨(hp _).2 hh.1,by rw [hlast];exact hh.2⟩]
theorem drop_abs {s:Sto} (hi:SInv s) (k:ByteArray) (n:Nat):absS (s.drop k n)=(absS s).cut (k,n):=by
 refine ab_ext (fun m=>?_) fun k=>rfl
 simp -implicitDefEqProofs only [absS,Ab.cut,Sto.drop,mcut_look hi.nd]
 split <;> rfl
theorem nd_le {α:Type}:∀ {l l':List α},l.Nodup→(∀ x∈l,x∈l')→l.length≤l'.length
 | [],_,_,_=>Nat.zero_le _
 | x :: l,l',hn,hs=>by
  obtain ⟨a,b,rfl⟩:=List.append_of_mem (hs x List.mem_cons_self)
  rw [List.nodup_cons] at hn
  have:=nd_le (l:=l) (l':=a++b) hn.2 fun y hy=>by
   have h:=hs y (List.mem_cons_of_mem _ hy)
   rcases List.mem_append.1 h with h | h
   ·exact List.mem_append_left _ h
   ·rcases List.mem_cons.1 h with rfl | h
    ·exact absurd hy hn.1
    ·exact List.mem_append_right _ h
  simp -implicitDefEqProofs only [List.length_append,List.length_cons] at this ⊢
  omega
theorem PutV.vlen {s s':Sto} {n:Nat} {l:List (ByteArray × ByteArray)} {ks:List ByteArray} {now:Int} {fr:Bool} (h:PutV s s' n l ks now fr) (hi:SInv s'):s'.vs.length≤s.vs.length+l.length:=by
 have:=nd_le (l:=s'.vs.map (·.1)) (l':=s.vs.map (·.1)++l.map fun p=>(p.1,n)) hi.nd fun m hm=>by
  rw [List.mem_append]
  by_cases hc:m.2=n∧m.1∈l.map (·.1)
  ·obtain ⟨p,hp,e⟩:=List.mem_map.1 hc.2
   exact .inr (List.mem_map.2 ⟨p,hp,by rw [e,← hc.1]⟩)
  ·refine .inl ?_
   rw [mem_keys] at hm ⊢
   rwa [h.other m (by
    by_cases e:m.2=n
    ·exact .inr fun h=>hc ⟨e,h⟩
    ·exact .inl e)] at hm
 simpa using this
theorem VS.vlen {v v':List (Nm × Hd)} {now:Int} {S:Nm→Prop} (h:VS v v' now S) (hn:(v.map (·.1)).Nodup):v'.length=v.length:=by
 have:=len_eq h.1 hn fun m=>by rw [mem_keys,mem_keys,h.some]
 simpa using this
def AtS (H:Heap) (b:Bk) (a:Ab) (F:Nat→Prop) (n:Nat):Prop:=∃ s,SH H b s F∧SInv s∧absS s=a∧s.n≤n∧s.vs.length≤n
theorem AtS.ext {H H':Heap} {b:Bk} {a:Ab} {F:Nat→Prop} {n:Nat} (h:AtS H b a F n) (hx:Ext H H'):AtS H' b a F n:=by
 obtain ⟨s,h1,h2⟩:=h
 exact ⟨s,h1.ext hx,h2⟩
theorem AtS.le {H:Heap} {b:Bk} {a:Ab} {F:Nat→Prop} {n m:Nat} (h:AtS H b a F n) (hm:n≤m):AtS H b a F m:=by
 obtain ⟨s,h1,h2,h3,h4,h5⟩:=h
 exact ⟨s,h1,h2,h3,by omega,by omega⟩
theorem AtS.frm {H H':Heap} {b:Bk} {a:Ab} {F G:Nat→Prop} {n:Nat} (h:AtS H b a F n) (hf:Frm G H H') (hg:∀ c,F c→c<H.length→¬ G c):AtS H' b a F n:=by
 obtain ⟨s,⟨im,pm,sa⟩,h2⟩:=h
 exact ⟨s,⟨im,pm,sa.frm hf hg⟩,h2⟩
def Gro (F F':Nat→Prop) (H H':Heap):Prop:=∀ c,F' c→F c∨(H.length≤c∧c<H'.length)
theorem newA (H:Heap):W env (.call 22 []) H (fun o H'=>Ext H H'∧∃ b F,o=.val (.ptr b.s 0)∧AtS H' b Ab.emp F 0∧∀ c,F c→H.length≤c∧c<H'.length) :=
 W.use (new7 H) fun o H' ⟨hx,b,F,hu,sh,hF⟩=>⟨hx,b,F,hu,⟨_,sh,SInv.emp,rfl,Nat.le_refl _,Nat.le_refl _⟩,hF⟩
theorem may_nd {n:Nat} {l:List (ByteArray × ByteArray)} {ks:List ByteArray} (h:MayP n l ks):(l.map (·.1)).Nodup:=by
 refine List.pairwise_map.2 (List.pairwise_iff_getElem.2 fun i j hi hj hij e=>?_)
 have:=pairs_lt h i j _ _ hij (List.getElem?_eq_getElem hi) (List.getElem?_eq_getElem hj)
 rw [e,lt_irr] at this;cases this
def PutAQ (b:Bk) (a:Ab) (F:Nat→Prop) (m n:Nat) (l:List (ByteArray × ByteArray)) (ks:List ByteArray) (now:Int) (H:Heap):Out→Heap→Prop:=fun o H' =>
 ∃ F',o=.val (.tup [.bool (a.fresh n l),.int .i64 0])∧AtS H' b (a.put n l ks now) F' (m+l.length)∧Frm F H H'∧Gro F F' H H'
theorem putA {b:Bk} {a:Ab} {F:Nat→Prop} {m:Nat} (n:Nat) (k k':SK) (l:List (ByteArray × ByteArray)) (ks:List ByteArray) (now:Int) {H:Heap} (h:AtS H b a F m) (hn:m+l.length≤8000000) (hko:KOk k' ks) (hm:MayP n l ks) (ht:TickOk now) :
  W env (.call 42 [.ptr b.s 0,.int .u64 n,.sl k (l.map eP),.sl k' (ks.map eS),.int .i64 now]) H (PutAQ b a F m n l ks now H):=by
 obtain ⟨s,sh,hi,rfl,h4,h5⟩:=h
 refine W.use (put28 b s F n k k' l ks now H sh hi (by omega) hko hm ht) fun o H' ⟨s',F',fr,hu,sh',hi',hp,hn',hfr,hg⟩=>⟨F',?_,⟨s',sh',hi',hp.abs (may_nd hm),by omega,?_⟩,hfr,hg⟩
 ·rw [hu,hp.fr]
 ·have:=hp.vlen hi';omega
def ComAQ (b:Bk) (a:Ab) (F:Nat→Prop) (m n:Nat) (now:Int) (H:Heap):Out→Heap→Prop:=fun o H' =>
 ∃ D:List ByteArray,D.Nodup∧(∀ k,k∈D↔a.has (k,n)=true)∧o=.val (.tup [.int .i64 D.length,.int .i64 0])∧AtS H' b (a.com n now) F m∧Frm F H H'
theorem comA {b:Bk} {a:Ab} {F:Nat→Prop} {m:Nat} (n:Nat) (now:Int) {H:Heap} (h:AtS H b a F m) (hn:m≤8000000) (hid:65536≤n) (ht:TickOk now):W env (.call 43 [.ptr b.s 0,.int .u64 n,.int .i64 now]) H (ComAQ b a F m n now H):=by
 obtain ⟨s,sh,hi,rfl,h4,h5⟩:=h
 refine W.use (commit14 b s F n now H sh hi (by omega) hid ht) fun o H' ⟨s',hu,sh',hi',hc,hn',_,_,hfr⟩=>⟨s.pls n,hi.pnd n,fun k=>?_,hu,⟨s',sh',hi',hc.abs hi,by omega,?_⟩,hfr⟩
 ·rw [hi.plm];simp [Ab.has,absS]
 ·have:=hc.vs.vlen hi.nd;omega
def DropAQ (b:Bk) (a:Ab) (F:Nat→Prop) (m:Nat) (k:ByteArray) (n:Nat) (H:Heap):Out→Heap→Prop:=fun o H' =>
 (a.v (k,n)=none∧o=.val (.int .i64 110)∧Ext H H')∨(∃ h,a.v (k,n)=some h∧h.stamp=-1∧o=.val (.int .i64 1)∧Ext H H') ∨
 ∃ h,a.v (k,n)=some h∧h.stamp≠-1∧o=.val (.int .i64 0)∧AtS H' b (a.cut (k,n)) F m∧Frm F H H'
theorem mcut_len {α β:Type} [DecidableEq α] (es:List (α × β)) (k:α):(mcut es k).length≤es.length:=by
 unfold mcut;split
 ·exact List.length_eraseIdx_le es _
 ·exact Nat.le_refl _
theorem dropA {b:Bk} {a:Ab} {F:Nat→Prop} {m:Nat} (k:ByteArray) (n:Nat) {H:Heap} (h:AtS H b a F m) (hn:m≤8000000):W env (.call 76 [.ptr b.s 0,.str k,.int .u64 n]) H (DropAQ b a F m k n H):=by
 obtain ⟨s,sh,hi,rfl,h4,h5⟩:=h
 refine W.use (drop15 b s F k n H sh hi (by omega)) fun o H' hq=>?_
 rcases hq with ⟨h1,hu,hx⟩ | ⟨h,h1,h2,hu,hx⟩ | ⟨h,h1,h2,hu,sh',hfr⟩
 ·exact .inl ⟨by simp [absS,h1],hu,hx⟩
 ·exact .inr (.inl ⟨h.vd,by simp [absS,h1],h2,hu,hx⟩)
 ·exact .inr (.inr ⟨h.vd,by simp [absS,h1],h2,hu,⟨_,sh',hi.drop k n,drop_abs hi k n,by simpa [Sto.drop] using h4,Nat.le_trans (mcut_len _ _) h5⟩,hfr⟩)
theorem byIDA {b:Bk} {a:Ab} {F:Nat→Prop} {m:Nat} (k:ByteArray) (n:Nat) {H:Heap} (h:AtS H b a F m):W env (.call 80 [.ptr b.s 0,.str k,.int .u64 n]) H (fun o H'=>Ext H H'∧((a.v (k,n)=none∧o=.val (.tup [.agg [.str ⟨#[]⟩,.int .u64 0,.str ⟨#[]⟩,.sl .nil []],.int .i64 110]))∨∃ h kk,a.v (k,n)=some h∧KOk kk h.keys∧o=.val (.tup [.agg (eVer k n h.value kk h.keys),.int .i64 0]))):=by
 obtain ⟨s,sh,hi,rfl,h4,h5⟩:=h
 refine W.use (byID12 b s F k n H sh hi) fun o H' ⟨hx,hq⟩=>⟨hx,?_⟩
 rcases hq with ⟨h1,hu⟩ | ⟨h,kk,h1,h2,hu⟩
 ·exact .inl ⟨by simp [absS,h1],hu⟩
 ·exact .inr ⟨h.vd,kk,by simp [absS,h1],h2,hu⟩
def vdOf (o:Option Vd):Vd:=o.getD ⟨⟨#[]⟩,[],0⟩
theorem vd_hd (o:Option Hd):(hdOf o).vd=vdOf (o.map Hd.vd):=by cases o <;> rfl
def Ab.latest (a:Ab) (k:ByteArray):Vd:=match a.l k with
 | none=>vdOf none
 | some n=>vdOf (a.v (k,n))
theorem latestA {b:Bk} {a:Ab} {F:Nat→Prop} {m:Nat} (k:ByteArray) {H:Heap} (h:AtS H b a F m):W env (.call 66 [.ptr b.s 0,.str k]) H (fun o H'=>Ext H H'∧∃ kk,KOk kk (a.latest k).keys∧o=.val (.agg (eVer k (a.last k) (a.latest k).value kk (a.latest k).keys))):=by
 obtain ⟨s,sh,hi,rfl,h4,h5⟩:=h
 have e:(latest s k).vd=(absS s).latest k:=by
  unfold latest Ab.latest
  simp -implicitDefEqProofs only [absS]
  cases mlook s.ls k with
  | none=>rfl
  | some n=>exact vd_hd _
 refine W.use (latest16 b s F k H sh hi) fun o H' ⟨hx,kk,hkk,hu⟩=>⟨hx,kk,?_,?_⟩
 ·rw [← e];exact hkk
 ·rw [hu,← e];rfl
def Names (a:Ab) (l:List Nm):Prop:=l.Pairwise (fun x y=>ltM x y=true)∧∀ m,m∈l↔a.has m=true
theorem Names.uniq {a:Ab} {l l':List Nm} (h:Names a l) (h':Names a l'):l=l':=sorted_eq l l' h.1 h'.1 fun m=>by rw [h.2,h'.2]
def eW (x:Nm):List T:=[.str x.1,.int .u64 x.2]
theorem has_put {a:Ab} {n:Nat} {l:List (ByteArray × ByteArray)} {ks:List ByteArray} {now:Int} {m:Nm}:(a.put n l ks now).has m=(a.has m||(decide (m.2=n)&&(mlook l m.1).isSome)):=by
 simp -implicitDefEqProofs only [Ab.has,Ab.put]
 cases h:a.v m with
 | some x=>simp
 | none =>
  by_cases e:m.2=n
  ·simp [e]
  ·simp [e]
theorem has_com {a:Ab} {n:Nat} {now:Int} {m:Nm}:(a.com n now).has m=a.has m:=by
 simp -implicitDefEqProofs only [Ab.has,Ab.com,Option.isSome_map]
theorem Gro.trans {F F' F2:Nat→Prop} {H H' H2:Heap} (h:Gro F F' H H') (h':Gro F' F2 H' H2) (l1:H.length≤H'.length) (l2:H'.length≤H2.length):Gro F F2 H H2:=fun c hc=>by
 rcases h' c hc with hc | hc
 ·rcases h c hc with hc | hc
  ·exact .inl hc
  ·exact .inr ⟨hc.1,by omega⟩
 ·exact .inr ⟨by omega,hc.2⟩
theorem AtS.keys {H:Heap} {b:Bk} {a:Ab} {F:Nat→Prop} {n:Nat} (h:AtS H b a F n):∀ m,(vdOf (a.v m)).keys.length≤1024:=fun m=>by
 obtain ⟨s,_,hi,rfl,_⟩:=h
 simp -implicitDefEqProofs only [absS]
 cases e:mlook s.vs m with
 | none=>simp [vdOf]
 | some x=>exact (hi.kok m x e).2
theorem AtS.names {H:Heap} {b:Bk} {a:Ab} {F:Nat→Prop} {n:Nat} (h:AtS H b a F n):∃ l,Names a l∧l.length≤n:=by
 obtain ⟨s,_,hi,rfl,_,hv⟩:=h
 obtain ⟨hp,hpw⟩:=sorted_listF (d:=(s.vs.map (·.1)).toArray) (by simpa using hi.nd)
 refine ⟨_,⟨hpw,fun m=>?_⟩,?_⟩
 ·rw [hp.mem_iff]
  show m∈(s.vs.map (·.1)).toArray.toList↔_
  rw [List.toList_toArray,mem_keys];simp [Ab.has,absS]
 ·rw [hp.length_eq];simpa using hv
def memN (D:List Nm) (m:Nm):Bool:=D.any fun x=>decide (x=m)
theorem memN_iff {D:List Nm} {m:Nm}:memN D m=true↔m∈D:=by simp [memN]
theorem memN_no {D:List Nm} {m:Nm} (h:m∉D):memN D m=false:=by
 cases e:memN D m with
 | false=>rfl
 | true=>exact absurd (memN_iff.1 e) h
def AbS (a:Ab):Prop:=∀ m h,a.v m=some h→(h.stamp=-1↔¬ m.2<a.last m.1)
theorem AbS.emp:AbS Ab.emp:=fun m h e=>by cases e
theorem AbS.put {a:Ab} (h:AbS a) {n:Nat} {l:List (ByteArray × ByteArray)} {ks:List ByteArray} {now:Int} (ht:0≤now):AbS (a.put n l ks now):=fun m x e=>by
 have hl:(a.put n l ks now).last m.1=a.last m.1:=rfl
 rw [hl]
 simp -implicitDefEqProofs only [Ab.put] at e
 cases h1:a.v m with
 | some y=>rw [h1] at e;cases e;exact h m _ h1
 | none =>
  rw [h1] at e
  simp only at e
  split at e
  ·rename_i en
   cases h2:mlook l m.1 with
   | none=>rw [h2] at e;cases e
   | some v =>
    rw [h2] at e;cases e
    simp only
    split
    ·rename_i hlt;rw [en];constructor
     ·intro;omega
     ·intro hh;exact absurd hlt hh
    ·rename_i hlt;rw [en];simp [hlt]
  ·cases e
theorem AbS.com {a:Ab} (h:AbS a) {n:Nat} {now:Int} (ht:0≤now):AbS (a.com n now):=fun m x e=>by
 have hl:(a.com n now).last m.1=if a.has (m.1,n)=true∧a.last m.1<n then n else a.last m.1:=by
  show (if _ then some n else a.l m.1).getD 0=_
  by_cases hc:a.has (m.1,n)=true∧a.last m.1<n
  ·rw [if_pos hc,if_pos hc];rfl
  ·rw [if_neg hc,if_neg hc];rfl
 rw [hl]
 simp -implicitDefEqProofs only [Ab.com] at e
 cases h1:a.v m with
 | none=>rw [h1] at e;cases e
 | some y =>
  have hy:=h m y h1
  rw [h1] at e;simp -implicitDefEqProofs only [Option.map_some,Option.some.injEq] at e;subst e
  by_cases hc:a.has (m.1,n)=true∧a.last m.1<n
  ·rw [if_pos hc]
   by_cases hs:y.stamp=-1
   ·by_cases hm:m.2<n
    ·rw [if_pos ⟨hs,hc.1,hc.2,hm⟩];simp only;constructor
     ·intro;omega
     ·intro hh;exact absurd hm hh
    ·rw [if_neg fun hh=>hm hh.2.2.2];exact ⟨fun _=>hm,fun _=>hs⟩
   ·rw [if_neg fun hh=>hs hh.1]
    have:m.2<a.last m.1:=Decidable.of_not_not fun hh=>hs (hy.2 hh)
    constructor
    ·intro hh;exact absurd hh hs
    ·intro hh;omega
  ·rw [if_neg hc,if_neg fun hh=>hc ⟨hh.2.1,hh.2.2.1⟩];exact hy
theorem put_0 (a:Ab) (n:Nat) (ks:List ByteArray) (now:Int):a.put n [] ks now=a:=ab_ext (fun m=>by
 simp -implicitDefEqProofs only [Ab.put,mlook_nil,Option.map_none]
 cases a.v m <;> simp) fun _=>rfl
theorem put_v (a:Ab) (n:Nat) (l:List (ByteArray × ByteArray)) (ks:List ByteArray) (now:Int) (m:Nm):(a.put n l ks now).v m=(a.v m).or (if m.2=n then (mlook l m.1).map fun v=>⟨v,ks,if n<a.last m.1 then now else -1⟩ else none):=by
 simp -implicitDefEqProofs only [Ab.put]
 cases a.v m <;> rfl
theorem last_com (a:Ab) (n:Nat) (now:Int) (k:ByteArray):(a.com n now).last k=if a.has (k,n)=true∧a.last k<n then n else a.last k:=by
 show (if _ then some n else a.l k).getD 0=_
 by_cases hc:a.has (k,n)=true∧a.last k<n
 ·rw [if_pos hc,if_pos hc];rfl
 ·rw [if_neg hc,if_neg hc];rfl
structure Kd where
 key:ByteArray
 id:Nat
 value:ByteArray
 kk:SK
 keys:List ByteArray
 stamp:Int
def Kd.nm (x:Kd):Nm:=(x.key,x.id)
def Kd.vd (x:Kd):Vd:=⟨x.value,x.keys,x.stamp⟩
def eKd (x:Kd):List T:=[.str x.key,.int .u64 x.id,.str x.value,.sl x.kk (x.keys.map eS),.int .i64 x.stamp]
def lastsUp (ls:List Nm):Prop:=ls.Pairwise (fun a b=>strLt a.1 b.1=true)
def keptUp (l:List Kd):Prop:=l.Pairwise (fun x y=>ltM x.nm y.nm=true)
def kdL (l:List Kd):List (Nm × Vd):=l.map fun x=>(x.nm,x.vd)
def ldAb (kept:List Kd) (lasts:List Nm):Ab:=⟨fun m=>mlook (kdL kept) m,fun k=>mlook lasts k⟩
theorem lastsUp.nd {ls:List Nm} (h:lastsUp ls):(ls.map (·.1)).Nodup:=List.pairwise_map.2 (h.imp fun {a b} hab e=>by rw [e,lt_irr] at hab;cases hab)
theorem kdL_key (l:List Kd):(kdL l).map (·.1)=l.map Kd.nm:=by simp [kdL,Function.comp_def]
theorem keptUp.nd {l:List Kd} (h:keptUp l):(l.map Kd.nm).Nodup:=List.pairwise_map.2 (h.imp fun {a b} hab e=>by rw [e,ltM_irr] at hab;cases hab)
theorem mlook_in {α β:Type} [DecidableEq α] {es:List (α × β)} {k:α} {v:β} (h:mlook es k=some v):(k,v)∈es:=by
 induction es with
 | nil=>cases h
 | cons e es ih =>
  rw [mlook_cons] at h
  split at h
  ·rename_i e2;cases h;rw [e2];exact List.mem_cons_self
  ·exact List.mem_cons_of_mem _ (ih h)
def AbT (a:Ab):Prop:=∀ m h,a.v m=some h→h.stamp=-1∨TickOk h.stamp
def AbG (a:Ab):Prop:=∀ m h,a.v m=some h→65536≤m.2∧GoodKeys h.keys∧m.1∈h.keys∧h.value.size≤65535
structure AbW (a:Ab):Prop where
 S:AbS a
 T:AbT a
 G:AbG a
 L:∀ k n,a.l k=some n→a.has (k,n)=true
theorem AbW.emp:AbW Ab.emp:=⟨AbS.emp,fun m h e=>(by cases e),fun m h e=>(by cases e),fun k n e=>(by cases e)⟩
theorem put_some {a:Ab} {n:Nat} {l:List (ByteArray × ByteArray)} {ks:List ByteArray} {now:Int} {m:Nm} {x:Vd} (h:(a.put n l ks now).v m=some x):a.v m=some x∨(m.2=n∧∃ v,(m.1,v)∈l∧x=⟨v,ks,if n<a.last m.1 then now else -1⟩):=by
 rw [put_v] at h
 cases h1:a.v m with
 | some y=>rw [h1] at h;exact .inl h
 | none =>
  rw [h1] at h
  simp -implicitDefEqProofs only [Option.none_or] at h
  split at h
  ·rename_i e
   cases h2:mlook l m.1 with
   | none=>rw [h2] at h;cases h
   | some v=>rw [h2] at h;cases h;exact .inr ⟨e,v,mlook_in h2,rfl⟩
  ·cases h
theorem com_some {a:Ab} {n:Nat} {now:Int} {m:Nm} {x:Vd} (h:(a.com n now).v m=some x):∃ y,a.v m=some y∧x.value=y.value∧x.keys=y.keys∧(x.stamp=y.stamp∨x.stamp=now):=by
 simp -implicitDefEqProofs only [Ab.com] at h
 cases h1:a.v m with
 | none=>rw [h1] at h;cases h
 | some y =>
  rw [h1] at h;simp -implicitDefEqProofs only [Option.map_some,Option.some.injEq] at h;subst h
  refine ⟨y,rfl,?_⟩
  split
  ·exact ⟨rfl,rfl,.inr rfl⟩
  ·exact ⟨rfl,rfl,.inl rfl⟩
theorem may_mem {n:Nat} {l:List (ByteArray × ByteArray)} {ks:List ByteArray} (h:MayP n l ks) {p:ByteArray × ByteArray} (hp:p∈l):p.1∈ks∧p.2.size≤65535:=by
 obtain ⟨i,hi,e⟩:=List.getElem_of_mem hp
 exact (h.2.2.2 i hi p (by rw [List.getElem?_eq_getElem hi,e])).2
theorem AbW.put {a:Ab} (h:AbW a) {n:Nat} {l:List (ByteArray × ByteArray)} {ks:List ByteArray} {now:Int} (hm:MayP n l ks) (ht:TickOk now):AbW (a.put n l ks now):=by
 refine ⟨h.S.put ht.1,fun m x e=>?_,fun m x e=>?_,fun k n' e=>?_⟩
 ·rcases put_some e with e | ⟨_,v,_,rfl⟩
  ·exact h.T m x e
  ·simp only;split
   ·exact .inr ht
   ·exact .inl rfl
 ·rcases put_some e with e | ⟨rfl,v,hv,rfl⟩
  ·exact h.G m x e
  ·have:=may_mem hm hv
   exact ⟨hm.1,hm.2.1,this.1,this.2⟩
 ·rw [has_put,h.L k n' e];rfl
theorem AbW.com {a:Ab} (h:AbW a) {n:Nat} {now:Int} (ht:TickOk now):AbW (a.com n now):=by
 refine ⟨h.S.com ht.1,fun m x e=>?_,fun m x e=>?_,fun k n' e=>?_⟩
 ·obtain ⟨y,hy,_,_,hs⟩:=com_some e
  rcases hs with hs | hs
  ·rw [hs];exact h.T m y hy
  ·rw [hs];exact .inr ht
 ·obtain ⟨y,hy,h1,h2,_⟩:=com_some e
  rw [h1,h2];exact h.G m y hy
 ·rw [has_com]
  simp -implicitDefEqProofs only [Ab.com] at e
  split at e
  ·rename_i hc;cases e;exact hc.1
  ·exact h.L k n' e
def Ab.drp (a:Ab) (m:Nm):Ab:=match a.v m with
 | some h=>if h.stamp=-1 then a else a.cut m
 | none=>a
theorem AbW.drp {a:Ab} (h:AbW a) (m:Nm):AbW (a.drp m):=by
 unfold Ab.drp
 split
 ·rename_i x hx
  split
  ·exact h
  ·rename_i hs
   have cs:∀ m' y,(a.cut m).v m'=some y→a.v m'=some y:=fun m' y e=>by
    simp -implicitDefEqProofs only [Ab.cut] at e;split at e
    ·cases e
    ·exact e
   refine ⟨fun m' y e=>h.S m' y (cs m' y e),fun m' y e=>h.T m' y (cs m' y e),fun m' y e=>h.G m' y (cs m' y e),fun k n e=>?_⟩
   have e:a.l k=some n:=e
   have h1:=h.L k n e
   simp -implicitDefEqProofs only [Ab.has,Ab.cut]
   rw [if_neg]
   ·exact h1
   ·intro e2
    have h3:=h.S m x hx
    refine hs (h3.2 ?_)
    rw [← e2];simp [Ab.last,e]
 ·exact h
theorem dropR {b:Bk} {a:Ab} {F:Nat→Prop} {m:Nat} (k:ByteArray) (n:Nat) {H:Heap} (h:AtS H b a F m) (hn:m≤7000000):W env (.call 76 [.ptr b.s 0,.str k,.int .u64 n]) H (fun o H'=>∃ e,o=.val (.int .i64 e)∧AtS H' b (a.drp (k,n)) F m∧Frm F H H'):=by
 refine W.use (dropA k n h (by omega)) fun o H' hq=>?_
 rcases hq with ⟨h1,hu,hx⟩ | ⟨x,h1,h2,hu,hx⟩ | ⟨x,h1,h2,hu,h',hfr⟩
 ·exact ⟨_,hu,by simp -implicitDefEqProofs only [Ab.drp,h1];exact h.ext hx,ext_frm hx⟩
 ·exact ⟨_,hu,by simp -implicitDefEqProofs only [Ab.drp,h1,if_pos h2];exact h.ext hx,ext_frm hx⟩
 ·exact ⟨_,hu,by simp -implicitDefEqProofs only [Ab.drp,h1,if_neg h2];exact h',hfr⟩
end Go.Proofs.YtmgldhlcapjdkaaGreat.St
end

section

end

section
namespace Go.Proofs.YtmgldhlcapjdkaaGreat.St
open Go.Rmp Go.Proofs.YtmgldhlcapjdkaaGreat.Ir
set_option maxRecDepth 10000
theorem rid68 (n:Nat) (H:Heap):W env (.call 118 [.int .u64 n]) H (Ret (.bool (decide (65536≤n))) H):=by
 refine W.fnI rfl rfl rfl ?_
 simp -implicitDefEqProofs only [ir118,op,ef,cl,sq,reduceIte,q4,q5,j2,j3,j4,j5,j6,j7,j8,S1]
theorem rtick71 (now:Int) (H:Heap):W env (.call 115 [.int .i64 now]) H (Ret (.bool (decide (0≤now)&&decide (now≤1099511627776))) H):=by
 refine W.fnI rfl rfl rfl ?_
 cases h:decide (0≤now) <;> simp -implicitDefEqProofs only [ir115,op,ef,cl,sq,reduceIte,q4,q5,j2,j3,j4,j5,j6,j7,j8,S1,h,Bool.false_and]
theorem rhas70 (k:SK) (l:List ByteArray) (x:ByteArray) (H:Heap) (hl:l.length≤16777216):W env (.call 158 [.sl k (l.map eS),.str x]) H (Ret (.bool (memB l x)) H):=by
 refine W.fnI rfl rfl rfl ?_
 simp -implicitDefEqProofs only [ir158,op,ef,cl,sq,reduceIte,q4,q5,j2,j3,j4,j5,j6,j7,j8,S1]
 refine W.loopV [(0,_),(1,_)] (fun (i:Nat) R H'=>H'=H∧R 5=.int .i64 i∧i≤l.length∧x∉l.take i) (fun i=>l.length-i) 0 ⟨rfl,rfl,Nat.zero_le _,by simp⟩ ?_
 rintro i R H1 ⟨rfl,g5,hi,hno⟩
 by_cases hlt:i<l.length
 ·obtain ⟨y,hy⟩:=getP hlt
  have iy:=iadX (e:=eS) (n:=1) (fun _=>rfl) (by decide) (k:=k) hy
  have wsi:=wrap_succ (show i<9223372036854775807 by omega)
  by_cases h:y=x
  ·have hm:memB l x=true:=memB_iff.2 (h ▸ List.mem_of_getElem? hy)
   simp -implicitDefEqProofs only [mkR_nil,mkR_cons,op,ef,cl,sq,reduceIte,q4,q5,j2,j3,j4,j5,j6,j7,j8,S1,List.length_map,g5,hlt,natOf_nat,iy,eS,h,hm]
  ·simp -implicitDefEqProofs only [mkR_nil,mkR_cons,op,ef,cl,sq,reduceIte,q4,q5,j2,j3,j4,j5,j6,j7,j8,S1,List.length_map,g5,hlt,natOf_nat,iy,eS,h,wsi]
   refine ⟨i+1,by omega,rfl,hlt,?_⟩
   rw [take_sn hy];simp [hno,Ne.symm h]
 ·have hie:i=l.length:=by omega
  subst hie
  rw [List.take_length] at hno
  have hm:memB l x=false:=memB_no.2 hno
  simp -implicitDefEqProofs only [mkR_nil,mkR_cons,op,ef,cl,sq,reduceIte,q4,q5,j2,j3,j4,j5,j6,j7,j8,S1,List.length_map,g5,hlt,hm]
def lensB (l:List ByteArray):Bool:=l.all (fun x=>decide (x.size≤65535))&&(decide (1≤l.length)&&decide (l.length≤1024))
theorem rlen92 (k:SK) (l:List ByteArray) (H:Heap) (hl:l.length≤16777216):W env (.call 182 [.sl k (l.map eS)]) H (Ret (.bool (lensB l)) H):=by
 refine W.fnI rfl rfl rfl ?_
 simp -implicitDefEqProofs only [ir182,op,ef,cl,sq,reduceIte,q4,q5,j2,j3,j4,j5,j6,j7,j8,S1]
 refine W.loopV [(0,_)] (fun (i:Nat) R H'=>H'=H∧R 3=.int .i64 i∧i≤l.length∧(l.take i).all (fun x=>decide (x.size≤65535))=true) (fun i=>l.length-i) 0 ⟨rfl,rfl,Nat.zero_le _,by simp⟩ ?_
 rintro i R H1 ⟨rfl,g3,hi,hall⟩
 by_cases hlt:i<l.length
 ·obtain ⟨y,hy⟩:=getP hlt
  have iy:=iadX (e:=eS) (n:=1) (fun _=>rfl) (by decide) (k:=k) hy
  have wsi:=wrap_succ (show i<9223372036854775807 by omega)
  by_cases h:65535<y.size
  ·have hf:lensB l=false:=by
    unfold lensB
    have:l.all (fun x=>decide (x.size≤65535))=false:=List.all_eq_false.2 ⟨y,List.mem_of_getElem? hy,by simp;omega⟩
    rw [this];rfl
   simp -implicitDefEqProofs only [mkR_nil,mkR_cons,op,ef,cl,sq,reduceIte,q4,q5,j2,j3,j4,j5,j6,j7,j8,S1,List.length_map,g3,hlt,natOf_nat,iy,eS,h,hf]
  ·simp -implicitDefEqProofs only [mkR_nil,mkR_cons,op,ef,cl,sq,reduceIte,q4,q5,j2,j3,j4,j5,j6,j7,j8,S1,List.length_map,g3,hlt,natOf_nat,iy,eS,h,wsi]
   refine ⟨i+1,by omega,rfl,hlt,?_⟩
   rw [take_sn hy,List.all_append,hall];simp;omega
 ·have hie:i=l.length:=by omega
  subst hie
  rw [List.take_length] at hall
  have hf:lensB l=(decide (1≤l.length)&&decide (l.length≤1024)):=by unfold lensB;rw [hall];rfl
  by_cases h1:1≤l.length
  ·simp -implicitDefEqProofs only [mkR_nil,mkR_cons,op,ef,cl,sq,reduceIte,q4,q5,j2,j3,j4,j5,j6,j7,j8,S1,List.length_map,g3,hlt,hf,h1]
  ·simp -implicitDefEqProofs only [mkR_nil,mkR_cons,op,ef,cl,sq,reduceIte,q4,q5,j2,j3,j4,j5,j6,j7,j8,S1,List.length_map,g3,hlt,hf,h1,Bool.false_and]
theorem rris93 (k:SK) (l:List ByteArray) (H:Heap) (hl:l.length≤16777216):W env (.call 183 [.sl k (l.map eS)]) H (Ret (.bool (rises l)) H):=by
 refine W.fnI rfl rfl rfl ?_
 simp -implicitDefEqProofs only [ir183,op,ef,cl,sq,reduceIte,q4,q5,j2,j3,j4,j5,j6,j7,j8,S1]
 refine W.loopV [(0,_)] (fun (i:Nat) R H'=>H'=H∧R 3=.int .i64 ((i:Nat)+1:Nat)∧∀ j,j<i→∀ a b,l[j]?=some a→l[j+1]?=some b→strLt a b=true) (fun i=>l.length-i) 0 ⟨rfl,rfl,fun j h=>by omega⟩ ?_
 rintro i R H1 ⟨rfl,g3,hall⟩
 by_cases hlt:i+1<l.length
 ·obtain ⟨y,hy⟩:=getP hlt
  obtain ⟨z,hz⟩:=getP (l:=l) (i:=i) (by omega)
  have iy:=iadX (e:=eS) (n:=1) (fun _=>rfl) (by decide) (k:=k) hy
  have iz:=iadX (e:=eS) (n:=1) (fun _=>rfl) (by decide) (k:=k) hz
  have wsi:=wrap_succ (show i+1<9223372036854775807 by omega)
  have wp:=wrap_pred (show i+1<9223372036854775807 by omega) (by omega)
  simp -implicitDefEqProofs only [Nat.add_sub_cancel] at wp
  cases h:strLt z y
  ·have hf:rises l=false:=by
    cases e:rises l with
    | false=>rfl
    | true=>have:=(rises_iff l).1 e i z y hz hy;rw [h] at this;cases this
   simp -implicitDefEqProofs only [mkR_nil,mkR_cons,op,ef,cl,sq,reduceIte,q4,q5,j2,j3,j4,j5,j6,j7,j8,S1,List.length_map,g3,hlt,natOf_nat,wp,iy,iz,eS,h,hf]
  ·simp -implicitDefEqProofs only [mkR_nil,mkR_cons,op,ef,cl,sq,reduceIte,q4,q5,j2,j3,j4,j5,j6,j7,j8,S1,List.length_map,g3,hlt,natOf_nat,wp,iy,iz,eS,h,wsi]
   refine ⟨i+1,by omega,rfl,fun j hj a b ha hb=>?_⟩
   by_cases e:j=i
   ·subst e;rw [hz] at ha;rw [hy] at hb;cases ha;cases hb;exact h
   ·exact hall j (by omega) a b ha hb
 ·have hr:rises l=true:=(rises_iff l).2 fun j a b ha hb=>hall j (by have:=(List.getElem?_eq_some_iff.1 hb).1;omega) a b ha hb
  simp -implicitDefEqProofs only [mkR_nil,mkR_cons,op,ef,cl,sq,reduceIte,q4,q5,j2,j3,j4,j5,j6,j7,j8,S1,List.length_map,g3,hlt,hr]
theorem rwhole69 (k:SK) (l:List ByteArray) (H:Heap) (hl:l.length≤16777216):W env (.call 157 [.sl k (l.map eS)]) H (Ret (.bool (goodB l)) H):=by
 have hg:goodB l=(lensB l&&rises l):=by
  unfold goodB lensB
  cases rises l <;> cases l.all (fun x=>decide (x.size≤65535)) <;> cases decide (1≤l.length) <;> cases decide (l.length≤1024) <;> rfl
 refine W.fnI rfl rfl rfl ?_
 simp -implicitDefEqProofs only [ir157,op,ef,cl,sq,reduceIte,q4,q5,j2,j3,j4,j5,j6,j7,j8,S1]
 refine callB_of _ _ _ _ _ _ _ _ (rlen92 k l _ hl) ?_
 rintro u H1 ⟨hu,rfl⟩
 cases hu
 cases h:lensB l
 ·rw [h,Bool.false_and] at hg
  simp -implicitDefEqProofs only [op,ef,cl,sq,reduceIte,q4,q5,j2,j3,j4,j5,j6,j7,j8,S1,hg]
 ·rw [h,Bool.true_and] at hg
  simp -implicitDefEqProofs only [op,ef,cl,sq,reduceIte,q4,q5,j2,j3,j4,j5,j6,j7,j8,S1]
  refine callB_of _ _ _ _ _ _ _ _ (rris93 k l _ hl) ?_
  rintro u H2 ⟨hu,rfl⟩
  cases hu
  simp -implicitDefEqProofs only [op,ef,cl,sq,reduceIte,q4,q5,j2,j3,j4,j5,j6,j7,j8,S1,hg]
theorem ltM_eq (a b:Nm):ltM a b=(strLt a.1 b.1||(decide (a.1=b.1)&&decide (a.2<b.2))):=by
 rw [Bool.eq_iff_iff,ltM_iff];simp
theorem rless32 (a b:Nm) (va vb ka kb:T) (ha:va.one=true∧vb.one=true∧ka.one=true∧kb.one=true) (H:Heap):W env (.call 159 [.agg [.str a.1,.int .u64 a.2,va,ka],.agg [.str b.1,.int .u64 b.2,vb,kb]]) H (RetG (.bool (ltM a b)) H):=by
 have hl:=ltM_eq a b
 have c0:∀ x y:B,(H++[x]++[y])[H.length]?=some x:=fun x y=>by rw [g_app (by simp),g_tail rfl]
 have ce:∀ l:List T,(T.agg l).cells?=some l:=fun _=>rfl
 refine W.fnI rfl rfl rfl ?_
 cases h1:strLt a.1 b.1
 ·by_cases h2:a.1=b.1
  ·rw [h1] at hl
   simp -implicitDefEqProofs only [h2,decide_true,Bool.true_and,Bool.false_or] at hl
   rw [h2] at h1
   simp -implicitDefEqProofs only [ir159,op,ef,cl,sq,reduceIte,q4,q5,j2,j3,j4,j5,j6,j7,j8,S1,S2,S3,c0,h1,h2,hl,retg_ext ((Ext.rfl'.app _).app _)]
  ·rw [h1] at hl
   simp -implicitDefEqProofs only [h2,decide_false,Bool.false_and,Bool.false_or] at hl
   simp -implicitDefEqProofs only [ir159,op,ef,cl,sq,reduceIte,q4,q5,j2,j3,j4,j5,j6,j7,j8,S1,S2,S3,c0,h1,h2,hl,retg_ext ((Ext.rfl'.app _).app _)]
 ·rw [h1,Bool.true_or] at hl
  simp -implicitDefEqProofs only [ir159,op,ef,cl,sq,reduceIte,q4,q5,j2,j3,j4,j5,j6,j7,j8,S1,S2,S3,c0,h1,hl,retg_ext ((Ext.rfl'.app _).app _)]
theorem mut_frm {α:Type} {enc:α→List T} {n n0:Nat} {H H':Heap} {G:Nat→Prop} {t:T} {l:List α} (h:Mut enc n n0 H t l) (hf:Frm G H H') (hg:∀ c,tb t=some c→¬ G c):Mut enc n n0 H' t l:=by
 rcases h with h | ⟨c,rfl,hc,h0⟩
 ·exact .inl h
 ·exact .inr ⟨c,rfl,hf.get hc (hg c rfl),h0⟩
theorem mut_blk {α:Type} {enc:α→List T} {n n0:Nat} {H:Heap} {t:T} {l:List α} (h:Mut enc n n0 H t l) {c:Nat} (hc:tb t=some c):H[c]?=some (.cells (msC enc l)):=by
 rcases h with ⟨_,rfl⟩ | ⟨c',rfl,hc',_⟩
 ·cases hc
 ·cases hc;exact hc'
theorem stayM_frm {n0:Nat} {H H':Heap} {t:T} (h:StayM n0 H t H'):Frm (fun c=>tb t=some c) H H':=⟨h.len,fun c hc hg=>by
 have hx:H[c]?=some H[c]:=List.getElem?_eq_getElem hc
 rw [hx]
 exact h.get c _ hx fun off len n e=>hg (by rw [e];rfl)⟩
theorem fgt_mut {α:Type} {enc:α→List T} {n n0:Nat} {H:Heap} {t:T} {l:List α} (h:Mut enc n n0 H t l):fgt t=t:=by
 rcases h with ⟨_,rfl⟩ | ⟨c,rfl,_⟩ <;> rfl
theorem len_mut {α:Type} {enc:α→List T} {n n0:Nat} {H:Heap} {t:T} {l:List α} (h:Mut enc n n0 H t l):∀ Hx,lenT Hx .sl t=some l.length:=fun Hx=>by
 rcases h with ⟨e,rfl⟩ | ⟨c,rfl,_,_⟩
 ·rw [e];rfl
 ·rfl
def mapTo {α:Type} (f:α→α) (l:List α) (i:Nat):List α:=(l.take i).map f++l.drop i
section
variable {α:Type} {f:α→α} {l:List α} {i:Nat} {x:α}
theorem mapTo_0:mapTo f l 0=l:=by simp [mapTo]
theorem mapTo_len:(mapTo f l i).length=l.length:=by simp [mapTo];omega
theorem mapTo_end:mapTo f l l.length=l.map f:=by simp [mapTo]
theorem drop_at (h:l[i]?=some x):l.drop i=x :: l.drop (i+1):=by
 obtain ⟨hi,e⟩:=List.getElem?_eq_some_iff.1 h
 rw [← e];exact List.drop_eq_getElem_cons hi
theorem mapTo_get (h:l[i]?=some x):(mapTo f l i)[i]?=some x:=by
 have hi:=(List.getElem?_eq_some_iff.1 h).1
 unfold mapTo
 rw [List.getElem?_append_right (by simp;omega),drop_at h]
 have:i-((l.take i).map f).length=0:=by simp;omega
 rw [this];rfl
theorem mapTo_set (h:l[i]?=some x):(mapTo f l i).set i (f x)=mapTo f l (i+1):=by
 have hi:=(List.getElem?_eq_some_iff.1 h).1
 unfold mapTo
 rw [take_sn h,drop_at h,List.set_append_right _ _ (by simp;omega)]
 have:i-((l.take i).map f).length=0:=by simp;omega
 rw [this];simp
theorem mapTo_same (h:l[i]?=some x) (e:f x=x):mapTo f l (i+1)=mapTo f l i:=by
 rw [← mapTo_set h,e]
 refine List.ext_getElem? fun j=>?_
 rw [List.getElem?_set]
 split
 ·rename_i hj;subst hj
  rw [mapTo_get h]
  have hi:=(List.getElem?_eq_some_iff.1 h).1
  rw [mapTo_len,if_pos hi]
 ·rfl
end
theorem tb_of {α:Type} {enc:α→List T} {n n0:Nat} {H:Heap} {t:T} {l:List α} {i c q:Nat} {x:α} (h:Mut enc n n0 H t l) (hx:l[i]?=some x) (hi:iadT n i t=some (.ptr c q)) (h0:n≠0):tb t=some c:=by
 rcases h with ⟨e,_⟩ | ⟨c',e1,_,_⟩
 ·rw [e] at hx;cases hx
 ·rw [e1,iad_m] at hi
  split at hi
  ·simp -implicitDefEqProofs only [Option.some.injEq,T.ptr.injEq] at hi
   rw [e1,← hi.1];rfl
  ·cases hi
theorem appM_any {α:Type} {enc:α→List T} {n:Nat} (hn:∀ x,(enc x).length=n) {H:Heap} {t:T} {l:List α} {bytes:Nat} (new:List α) (h:Mut enc n 0 H t l) (hr:roomOk (l.length+new.length) bytes=true) :
  ∃ t' H',appM H n bytes t (new.map enc)=some (t',H')∧Mut enc n 0 H' t' (l++new)∧Frm (fun c=>tb t=some c) H H'∧∀ c,tb t'=some c→(tb t=some c∧new=[])∨H.length≤c:=by
 by_cases he:new=[]
 ·subst he
  refine ⟨t,H,?_,by simpa using h,Frm.refl _ _,fun c hc=>.inl ⟨hc,rfl⟩⟩
  have:isSlT t=true:=by rcases h with ⟨_,rfl⟩ | ⟨c,rfl,_⟩ <;> rfl
  simp [appM,this]
 ·obtain ⟨t',H',ha,hm,hst⟩:=appM_ok (enc:=enc) (n:=n) (n0:=0) hn (bytes:=bytes) new h (Nat.zero_le _) he hr
  refine ⟨t',H',ha,hm,stayM_frm hst,fun c hc=>.inr ?_⟩
  rcases hm with ⟨e,_⟩ | ⟨c',rfl,_,_⟩
  ·simp at e;exact absurd e.2 he
  ·cases hc;exact appM_fr ha (by simpa using he)
theorem elems_sub {α:Type} {enc:α→List T} {n:Nat} (hn:∀ x,(enc x).length=n) {H:Heap} {b:Nat} {xs:List α} (hb:H[b]?=some (.cells (msC enc xs))) (j k:Nat) (hjk:j+k≤xs.length):elemsOf H n (.msl b (j*n) k n)=some (((xs.drop j).take k).map enc):=(elemsK_ms hn hb j k k 0 hjk).1
structure RC (H:Heap) (p:Nat) (tK tL:T) (K:List Kd) (L:List Nm) (G:Nat→Prop):Prop where
 hp:H[p]?=some (.cells [tK,tL])
 mK:Mut eKd 5 0 H tK K
 mL:Mut eW 2 0 H tL L
 gp:G p
 gK:∀ c,tb tK=some c→G c∧c≠p
 gL:∀ c,tb tL=some c→G c∧c≠p
 ne:∀ c,tb tK=some c→tb tL=some c→False
 ko:∀ x∈K,x.kk=.arg∧x.keys.length≤1024
theorem RC.frm {H H':Heap} {p:Nat} {tK tL:T} {K:List Kd} {L:List Nm} {G D:Nat→Prop} (h:RC H p tK tL K L G) (hf:Frm D H H') (hd:∀ c,G c→c<H.length→¬ D c):RC H' p tK tL K L G :=
 ⟨hf.get h.hp (hd p h.gp (glt h.hp)),mut_frm h.mK hf fun c hc=>hd c (h.gK c hc).1 (glt (mut_blk h.mK hc)),mut_frm h.mL hf fun c hc=>hd c (h.gL c hc).1 (glt (mut_blk h.mL hc)),h.gp,h.gK,h.gL,h.ne,h.ko⟩
theorem RC.ext {H H':Heap} {p:Nat} {tK tL:T} {K:List Kd} {L:List Nm} {G:Nat→Prop} (h:RC H p tK tL K L G) (hx:Ext H H'):RC H' p tK tL K L G:=h.frm (ext_frm (F:=fun _=>False) hx) fun _ _ _ h=>h
def fiK (K:List Kd) (m:Nm):Nat:=(K.takeWhile fun x=>ltM x.nm m).length
theorem tw_len {α:Type} {p:α→Bool}:∀ {l:List α} {i:Nat},(∀ j x,j<i→l[j]?=some x→p x=true)→i≤l.length→(∀ x,l[i]?=some x→p x=false)→(l.takeWhile p).length=i
 | [],i,_,hi,_=>by simp at hi;subst hi;rfl
 | x :: l,0,_,_,h=>by have:=h x rfl;simp [List.takeWhile_cons,this]
 | x :: l,i+1,h1,hi,h2=>by
  have hx:=h1 0 x (by omega) rfl
  simp -implicitDefEqProofs only [List.takeWhile_cons,hx,if_true,List.length_cons]
  rw [tw_len (i:=i) (fun j y hj hy=>h1 (j+1) y (Nat.succ_lt_succ hj) (by simpa using hy)) (by simpa using hi) (fun y hy=>h2 y (by simpa using hy))]
theorem tw_lt {α:Type} {p:α→Bool}:∀ {l:List α} {j:Nat} {x:α},j<(l.takeWhile p).length→l[j]?=some x→p x=true
 | [],j,x,h,_=>by simp at h
 | y :: l,j,x,h,hx=>by
  simp -implicitDefEqProofs only [List.takeWhile_cons] at h
  cases hy:p y
  ·rw [hy] at h;simp at h
  ·rw [hy] at h
   cases j with
   | zero=>cases hx;exact hy
   | succ j=>exact tw_lt (j:=j) (by simpa using h) (by simpa using hx)
theorem tw_at {α:Type} {p:α→Bool}:∀ {l:List α} {x:α},l[(l.takeWhile p).length]?=some x→p x=false
 | [],x,h=>by simp at h
 | y :: l,x,h=>by
  simp -implicitDefEqProofs only [List.takeWhile_cons] at h
  cases hy:p y
  ·rw [hy] at h;simp at h;subst h;exact hy
  ·rw [hy] at h;simp at h;exact tw_at h
theorem tw_le {α:Type} (p:α→Bool):∀ l:List α,(l.takeWhile p).length≤l.length
 | []=>by simp
 | y :: l=>by
  simp -implicitDefEqProofs only [List.takeWhile_cons]
  split
  ·have:=tw_le p l;simp;omega
  ·simp
theorem fiK_mem {K:List Kd} (hs:keptUp K) (m:Nm):memN (K.map Kd.nm) m=true↔∃ x,K[fiK K m]?=some x∧x.nm=m:=by
 rw [memN_iff,List.mem_map]
 constructor
 ·rintro ⟨x,hx,rfl⟩
  obtain ⟨j,hj,e⟩:=List.getElem_of_mem hx
  refine ⟨x,?_,rfl⟩
  have:fiK K x.nm=j:=tw_len (fun i y hi hy=>by
   have:=List.pairwise_iff_getElem.1 hs i j (List.getElem?_eq_some_iff.1 hy).1 hj hi
   rw [(List.getElem?_eq_some_iff.1 hy).2,e] at this;exact this) (Nat.le_of_lt hj) (fun y hy=>by
   rw [List.getElem?_eq_getElem hj,e] at hy;cases hy;exact ltM_irr _)
  rw [this,List.getElem?_eq_getElem hj,e]
 ·rintro ⟨x,hx,e⟩;exact ⟨x,List.mem_of_getElem? hx,e⟩
theorem rlast56 {H:Heap} {p:Nat} {tK tL:T} {K:List Kd} {L:List Nm} {G:Nat→Prop} (h:RC H p tK tL K L G) (hl:L.length≤8000000) (k:ByteArray):W env (.call 117 [.ptr p 0,.str k]) H (Ret (.int .u64 ((ldAb K L).last k:Nat)) H):=by
 have hlen:=len_mut h.mL
 have hlast:∀ ls:List Nm,(ldAb K ls).last k=(mlook ls k).getD 0:=fun _=>rfl
 refine W.fnI rfl rfl rfl ?_
 simp -implicitDefEqProofs only [ir117,op,ef,cl,sq,reduceIte,q4,q5,j2,j3,j4,j5,j6,j7,j8,S1]
 refine W.loopV [(0,_),(1,_)] (fun (i:Nat) R H'=>H'=H∧R 5=.int .i64 i∧i≤L.length∧mlook L k=mlook (L.drop i) k) (fun i=>L.length-i) 0 ⟨rfl,rfl,Nat.zero_le _,by simp⟩ ?_
 rintro i R H1 ⟨rfl,g5,hi,hno⟩
 by_cases hlt:i<L.length
 ·obtain ⟨x,hx⟩:=getP hlt
  obtain ⟨c,hc,ia,_⟩:=mut_n (enc:=eW) (n:=2) (fun _=>rfl) (by decide) h.mL hx
  have wsi:=wrap_succ (show i<9223372036854775807 by omega)
  have r0:ldcB 1 (i*2+0) (some (.cells (msC eW L)))=some [.str x.1]:=msC_get (enc:=eW) (n:=2) (fun _=>rfl) hx 0 1 (by decide)
  have r1:ldcB 1 (i*2+1) (some (.cells (msC eW L)))=some [.int .u64 x.2]:=msC_get (enc:=eW) (n:=2) (fun _=>rfl) hx 1 1 (by decide)
  have he:mlook (L.drop i) k=if k=x.1 then some x.2 else mlook (L.drop (i+1)) k:=by
   rw [drop_at hx,mlook_cons]
  by_cases h1:x.1=k
  ·rw [if_pos h1.symm] at he
   have:(ldAb K L).last k=x.2:=by rw [hlast,hno,he];rfl
   simp -implicitDefEqProofs only [mkR_nil,mkR_cons,op,ef,cl,sq,reduceIte,q4,q5,j2,j3,j4,j5,j6,j7,j8,S1,h.hp,hlen,g5,hlt,natOf_nat,ia,hc,r0,r1,h1,this]
  ·rw [if_neg fun h=>h1 h.symm] at he
   simp -implicitDefEqProofs only [mkR_nil,mkR_cons,op,ef,cl,sq,reduceIte,q4,q5,j2,j3,j4,j5,j6,j7,j8,S1,h.hp,hlen,g5,hlt,natOf_nat,ia,hc,r0,r1,h1,wsi]
   exact ⟨i+1,by omega,rfl,hlt,by rw [hno,he]⟩
 ·have hie:i=L.length:=by omega
  subst hie
  have:(ldAb K L).last k=0:=by rw [hlast,hno,List.drop_length];rfl
  simp -implicitDefEqProofs only [mkR_nil,mkR_cons,op,ef,cl,sq,reduceIte,q4,q5,j2,j3,j4,j5,j6,j7,j8,S1,h.hp,hlen,g5,hlt,this]
  rfl
set_option maxHeartbeats 1000000 in
theorem rfind34 {H:Heap} {p:Nat} {tK tL:T} {K:List Kd} {L:List Nm} {G:Nat→Prop} (h:RC H p tK tL K L G) (hs:keptUp K) (hl:K.length≤8000000) (m:Nm):W env (.call 116 [.ptr p 0,.str m.1,.int .u64 m.2]) H (fun o H'=>Ext H H'∧o=.val (.tup [.int .i64 (fiK K m),.bool (memN (K.map Kd.nm) m)])):=by
 have hlen:=len_mut h.mK
 refine W.fnI rfl rfl rfl ?_
 simp -implicitDefEqProofs only [ir116,op,ef,cl,sq,reduceIte,q4,q5,j2,j3,j4,j5,j6,j7,j8,S1]
 refine W.loopX 0 [(0,_),(1,_),(2,_)] (fun (i:Nat) R H'=>At H' (fun H'=>Ext H H')∧R 8=.int .i64 i∧i≤K.length∧∀ j x,j<i→K[j]?=some x→ltM x.nm m=true) (fun i=>K.length-i) 0
  (fun R H'=>At H' (fun H'=>Ext H H')∧R 8=.int .i64 (fiK K m)) ⟨.i Ext.rfl',rfl,Nat.zero_le _,fun j x hj=>by omega⟩ ?_ ?_
 ·rintro i R H1 ⟨hx1,g8,hi,hall⟩
  have hx1:Ext H H1:=hx1
  have h1:=h.ext hx1
  by_cases hlt:i<K.length
  ·obtain ⟨x,hx⟩:=getP hlt
   obtain ⟨c,hc,ia,_⟩:=mut_n (enc:=eKd) (n:=5) (fun _=>rfl) (by decide) h1.mK hx
   have wsi:=wrap_succ (show i<9223372036854775807 by omega)
   have r0:ldcB 4 (i*5+0) (some (.cells (msC eKd K)))=some [.str x.nm.1,.int .u64 x.nm.2,.str x.value,.sl x.kk (x.keys.map eS)]:=msC_get (enc:=eKd) (n:=5) (fun _=>rfl) hx 0 4 (by decide)
   simp -implicitDefEqProofs only [mkR_nil,mkR_cons,op,ef,cl,sq,reduceIte,q4,q5,j2,j3,j4,j5,j6,j7,j8,S1,h1.hp,hlen,g8,hlt,natOf_nat,ia,hc,r0]
   refine callB_of _ _ _ _ _ _ _ _ (rless32 x.nm m _ _ _ _ ⟨rfl,rfl,rfl,rfl⟩ _) ?_
   rintro u H2 ⟨hu,hx2⟩
   cases hu
   have hx2:Ext H1 H2:=hx2
   cases hlm:ltM x.nm m
   ·simp -implicitDefEqProofs only [mkR_nil,mkR_cons,op,ef,cl,sq,reduceIte,q4,q5,j2,j3,j4,j5,j6,j7,j8,S1,g8]
    refine ⟨.i (hx1.trans hx2),?_⟩
    rw [fiK,tw_len hall hi fun y hy=>by rw [hx] at hy;cases hy;exact hlm]
   ·simp -implicitDefEqProofs only [mkR_nil,mkR_cons,op,ef,cl,sq,reduceIte,q4,q5,j2,j3,j4,j5,j6,j7,j8,S1,g8,wsi]
    refine ⟨i+1,by omega,.i (hx1.trans hx2),rfl,hlt,fun j y hj hy=>?_⟩
    by_cases e:j=i
    ·subst e;rw [hx] at hy;cases hy;exact hlm
    ·exact hall j y (by omega) hy
  ·have hie:i=K.length:=by omega
   subst hie
   simp -implicitDefEqProofs only [mkR_nil,mkR_cons,op,ef,cl,sq,reduceIte,q4,q5,j2,j3,j4,j5,j6,j7,j8,S1,h1.hp,hlen,g8,hlt]
   refine ⟨.i hx1,?_⟩
   rw [fiK,tw_len hall hi fun y hy=>by have:=(List.getElem?_eq_some_iff.1 hy).1;omega]
 ·rintro R H1 ⟨hx1,g8⟩
  have hx1:Ext H H1:=hx1
  have h1:=h.ext hx1
  have hmem:=fiK_mem hs m
  have no:(∀ x,K[fiK K m]?=some x→x.nm≠m)→memN (K.map Kd.nm) m=false:=fun hh=>by
   cases e:memN (K.map Kd.nm) m with
   | false=>rfl
   | true=>obtain ⟨x,hx,e2⟩:=hmem.1 e;exact absurd e2 (hh x hx)
  by_cases hlt:fiK K m<K.length
  ·obtain ⟨x,hx⟩:=getP hlt
   obtain ⟨c,hc,ia,_⟩:=mut_n (enc:=eKd) (n:=5) (fun _=>rfl) (by decide) h1.mK hx
   have r0:ldcB 1 (fiK K m*5+0+0) (some (.cells (msC eKd K)))=some [.str x.key]:=msC_get (enc:=eKd) (n:=5) (fun _=>rfl) hx 0 1 (by decide)
   have r1:ldcB 1 (fiK K m*5+0+1) (some (.cells (msC eKd K)))=some [.int .u64 x.id]:=msC_get (enc:=eKd) (n:=5) (fun _=>rfl) hx 1 1 (by decide)
   by_cases e1:x.key=m.1
   ·by_cases e2:x.id=m.2
    ·have ht:memN (K.map Kd.nm) m=true:=hmem.2 ⟨x,hx,Prod.ext e1 e2⟩
     simp -implicitDefEqProofs only [mkR_nil,mkR_cons,op,ef,cl,sq,reduceIte,q4,q5,j2,j3,j4,j5,j6,j7,j8,S1,h1.hp,hlen,g8,hlt,natOf_nat,ia,hc,r0,r1,e1,e2,ht]
     exact hx1
    ·have hf:=no fun y hy e=>by rw [hx] at hy;cases hy;exact e2 (congrArg Prod.snd e)
     simp -implicitDefEqProofs only [mkR_nil,mkR_cons,op,ef,cl,sq,reduceIte,q4,q5,j2,j3,j4,j5,j6,j7,j8,S1,h1.hp,hlen,g8,hlt,natOf_nat,ia,hc,r0,r1,e1,e2,hf]
     exact hx1
   ·have hf:=no fun y hy e=>by rw [hx] at hy;cases hy;exact e1 (congrArg Prod.fst e)
    simp -implicitDefEqProofs only [mkR_nil,mkR_cons,op,ef,cl,sq,reduceIte,q4,q5,j2,j3,j4,j5,j6,j7,j8,S1,h1.hp,hlen,g8,hlt,natOf_nat,ia,hc,r0,r1,e1,hf]
    exact hx1
  ·have hf:=no fun y hy e=>by have:=(List.getElem?_eq_some_iff.1 hy).1;omega
   simp -implicitDefEqProofs only [mkR_nil,mkR_cons,op,ef,cl,sq,reduceIte,q4,q5,j2,j3,j4,j5,j6,j7,j8,S1,h1.hp,hlen,g8,hlt,hf]
   exact hx1
theorem app_nil {α:Type} {enc:α→List T} {n bytes:Nat} (he:∀ x,(enc x).map T.erase=enc x) (l:List α) (hr:roomOk l.length bytes=true) (H:Heap):∃ k' H',appT H bytes .nil [] (l.map enc)=some (.sl k' (l.map enc),H')∧Ext H H'∧KOk k' l:=by
 cases l with
 | nil=>exact ⟨.nil,H,rfl,Ext.rfl',fun _=>rfl⟩
 | cons a l =>
  obtain ⟨k',H',ha,hap,hst⟩:=app_ok (n0:=H.length) (H:=H) (bytes:=bytes) (k:=.nil) [] ((a :: l).map enc) (.inl rfl) (Nat.le_refl _) (by simp) (by simpa using hr)
  have e:((a :: l).map enc).map (·.map T.erase)=(a :: l).map enc:=by
   rw [List.map_map];exact List.map_congr_left fun x _=>he x
  rw [List.nil_append,e] at ha
  refine ⟨k',H',ha,hst.ext H (Nat.le_refl _) Ext.rfl',fun h=>absurd h (app_nn ha (by simp))⟩
theorem cells_mut {α:Type} {enc:α→List T} {n n0:Nat} {H:Heap} {t:T} {l:List α} (h:Mut enc n n0 H t l):t.cells?=some [t]:=by
 rcases h with ⟨_,rfl⟩ | ⟨c,rfl,_⟩ <;> rfl
theorem RC.setK {H H':Heap} {p:Nat} {tK tL t':T} {K K':List Kd} {L:List Nm} {G:Nat→Prop} (h:RC H p tK tL K L G) (hf:Frm (fun c=>tb tK=some c) H H') (hm:Mut eKd 5 0 H' t' K') (hn:∀ c,tb t'=some c→H.length≤c) (hko:∀ x∈K',x.kk=.arg∧x.keys.length≤1024) :
  H'[p]?=some (.cells [tK,tL])∧Frm G H (H'.set p (.cells [t',tL]))∧∃ G',RC (H'.set p (.cells [t',tL])) p t' tL K' L G'∧Gro G G' H (H'.set p (.cells [t',tL])):=by
 have hp:=hf.get h.hp fun hc=>(h.gK _ hc).2 rfl
 have lp:=glt hp
 have lp0:=glt h.hp
 have f1:Frm (fun c=>c=p) H' (H'.set p (.cells [t',tL])):=(Frm.refl (fun c=>c=p) H').set (.inl rfl) _
 have tK':∀ c,tb t'=some c→c≠p:=fun c hc e=>by have:=hn c hc;omega
 refine ⟨hp,(hf.mono fun c hc=>(h.gK c hc).1).set (.inl h.gp) _,fun c=>c=p∨tb t'=some c∨tb tL=some c,⟨g_eq lp,mut_frm hm f1 tK',mut_frm (mut_frm h.mL hf fun c hc hc'=>h.ne c hc' hc) f1 fun c hc=>(h.gL c hc).2,.inl rfl,fun c hc=>⟨.inr (.inl hc),tK' c hc⟩,fun c hc=>⟨.inr (.inr hc),(h.gL c hc).2⟩,fun c hc hc'=>?_,hko⟩,fun c hc=>?_⟩
 ·have:=hn c hc;have:=glt (mut_blk h.mL hc');omega
 ·rcases hc with rfl | hc | hc
  ·exact .inl h.gp
  ·exact .inr ⟨hn c hc,by rw [List.length_set];exact glt (mut_blk hm hc)⟩
  ·exact .inl (h.gL c hc).1
theorem RC.setL {H H':Heap} {p:Nat} {tK tL t':T} {K:List Kd} {L L':List Nm} {G:Nat→Prop} (h:RC H p tK tL K L G) (hf:Frm (fun c=>tb tL=some c) H H') (hm:Mut eW 2 0 H' t' L') (hn:∀ c,tb t'=some c→H.length≤c) :
  H'[p]?=some (.cells [tK,tL])∧Frm G H (H'.set p (.cells [tK,t']))∧∃ G',RC (H'.set p (.cells [tK,t'])) p tK t' K L' G'∧Gro G G' H (H'.set p (.cells [tK,t'])):=by
 have hp:=hf.get h.hp fun hc=>(h.gL _ hc).2 rfl
 have lp:=glt hp
 have lp0:=glt h.hp
 have f1:Frm (fun c=>c=p) H' (H'.set p (.cells [tK,t'])):=(Frm.refl (fun c=>c=p) H').set (.inl rfl) _
 have tK':∀ c,tb t'=some c→c≠p:=fun c hc e=>by have:=hn c hc;omega
 refine ⟨hp,(hf.mono fun c hc=>(h.gL c hc).1).set (.inl h.gp) _,fun c=>c=p∨tb tK=some c∨tb t'=some c,⟨g_eq lp,mut_frm (mut_frm h.mK hf fun c hc hc'=>h.ne c hc hc') f1 fun c hc=>(h.gK c hc).2,mut_frm hm f1 tK',.inl rfl,fun c hc=>⟨.inr (.inl hc),(h.gK c hc).2⟩,fun c hc=>⟨.inr (.inr hc),tK' c hc⟩,fun c hc hc'=>?_,h.ko⟩,fun c hc=>?_⟩
 ·have:=hn c hc';have:=glt (mut_blk h.mK hc);omega
 ·rcases hc with rfl | hc | hc
  ·exact .inl h.gp
  ·exact .inl (h.gK c hc).1
  ·exact .inr ⟨hn c hc,by rw [List.length_set];exact glt (mut_blk hm hc)⟩
end Go.Proofs.YtmgldhlcapjdkaaGreat.St
end

section

end

section
namespace Go.Proofs.YtmgldhlcapjdkaaGreat.St
open Go.Rmp Go.Proofs.YtmgldhlcapjdkaaGreat.Ir
set_option maxRecDepth 10000
def insK (K:List Kd) (x:Kd):List Kd:=K.take (fiK K x.nm)++x :: K.drop (fiK K x.nm)
theorem drop_ge {α:Type} {R:α→α→Prop} {l:List α} {i:Nat} (hs:l.Pairwise R) {y z:α} (hy:l[i]?=some y) (hz:z∈l.drop i):z=y∨R y z:=by
 rw [drop_at hy] at hz
 rcases List.mem_cons.1 hz with h | h
 ·exact .inl h
 ·have:=hs.sublist (List.drop_sublist i l)
  rw [drop_at hy,List.pairwise_cons] at this
  exact .inr (this.1 z h)
theorem insK_up {K:List Kd} (hs:keptUp K) {x:Kd} (hno:x.nm∉K.map Kd.nm):keptUp (insK K x):=by
 have ht:∀ y∈K.take (fiK K x.nm),ltM y.nm x.nm=true:=fun y hy=>by
  obtain ⟨j,hj,e⟩:=List.getElem_of_mem hy
  rw [List.length_take] at hj
  rw [List.getElem_take] at e
  unfold fiK at hj
  have:=tw_lt (p:=fun x':Kd=>ltM x'.nm x.nm) (l:=K) (j:=j) (x:=y) (by omega) (by rw [List.getElem?_eq_getElem (by omega),e])
  exact this
 have hd:∀ z∈K.drop (fiK K x.nm),ltM x.nm z.nm=true:=fun z hz=>by
  by_cases hlt:fiK K x.nm<K.length
  ·obtain ⟨y,hy⟩:=getP hlt
   have hy':=hy
   unfold fiK at hy'
   have h1:(fun x':Kd=>ltM x'.nm x.nm) y=false:=tw_at (p:=fun x':Kd=>ltM x'.nm x.nm) hy'
   have h2:ltM x.nm y.nm=true:=by
    cases e:ltM x.nm y.nm with
    | true=>rfl
    | false=>exact absurd (List.mem_map.2 ⟨y,List.mem_of_getElem? hy,ltM_tri h1 e⟩) hno
   rcases drop_ge hs hy hz with rfl | h
   ·exact h2
   ·exact ltM_trans h2 h
  ·rw [List.drop_eq_nil_of_le (by omega)] at hz;cases hz
 refine List.pairwise_append.2 ⟨hs.sublist (List.take_sublist _ _),List.pairwise_cons.2 ⟨hd,hs.sublist (List.drop_sublist _ _)⟩,fun y hy z hz=>?_⟩
 rcases List.mem_cons.1 hz with rfl | hz
 ·exact ht y hy
 ·exact ltM_trans (ht y hy) (hd z hz)
theorem mlook_ap {α β:Type} [DecidableEq α] (A B:List (α × β)) (k:α):mlook (A++B) k=(mlook A k).or (mlook B k):=by
 induction A with
 | nil=>simp [mlook_nil]
 | cons e A ih =>
  rw [List.cons_append,mlook_cons,mlook_cons,ih]
  split <;> rfl
theorem mlook_ins {α β:Type} [DecidableEq α] (A B:List (α × β)) (e:α × β) (h:e.1∉A.map (·.1)) (k:α):mlook (A++e :: B) k=if k=e.1 then some e.2 else mlook (A++B) k:=by
 rw [mlook_ap,mlook_ap,mlook_cons]
 by_cases hk:k=e.1
 ·subst hk
  rw [mlook_none.2 h];simp
 ·simp [hk]
theorem mlook_cut {α β:Type} [DecidableEq α] (A B:List (α × β)) (e:α × β) (h:e.1∉(A++B).map (·.1)) (k:α):mlook (A++B) k=if k=e.1 then none else mlook (A++e :: B) k:=by
 rw [mlook_ins _ _ _ (fun hh=>h (by rw [List.map_append];exact List.mem_append_left _ hh))]
 by_cases hk:k=e.1
 ·subst hk;rw [mlook_none.2 h];simp
 ·simp [hk]
theorem kdL_app (A B:List Kd):kdL (A++B)=kdL A++kdL B:=List.map_append
theorem kdL_cons (x:Kd) (B:List Kd):kdL (x :: B)=(x.nm,x.vd) :: kdL B:=rfl
theorem insK_look {K:List Kd} {x:Kd} (hno:x.nm∉K.map Kd.nm) (m:Nm):mlook (kdL (insK K x)) m=if m=x.nm then some x.vd else mlook (kdL K) m:=by
 rw [insK,kdL_app,kdL_cons,mlook_ins _ _ _ (fun h=>hno (by
  rw [kdL_key] at h
  obtain ⟨y,hy,e⟩:=List.mem_map.1 h
  exact List.mem_map.2 ⟨y,List.mem_of_mem_take hy,e⟩)),← kdL_app,List.take_append_drop]
theorem insK_len (K:List Kd) (x:Kd):(insK K x).length=K.length+1:=by
 have:=tw_le (fun x'=>ltM x'.nm x.nm) K
 simp -implicitDefEqProofs only [insK,List.length_append,List.length_take,List.length_cons,List.length_drop,fiK];omega
theorem sll_lo {α:Type} {enc:α→List T} {n n0:Nat} (hn:∀ x,(enc x).length=n) {H:Heap} {t:T} {l:List α} (h:Mut enc n n0 H t l) {i:Nat} (hi:i≤l.length):∃ t',(∀ R Hx a b,(X.r a).ev R=t→(X.r b).ev R=.int .i64 i→evop R Hx (.sll n (.r a) none (some (.r b)) none)=some (t',Hx))∧∀ Hx,Mut enc n n0 Hx t l→elemsOf Hx n t'=some ((l.take i).map enc):=by
 rcases h with ⟨rfl,rfl⟩ | ⟨c,rfl,hc,_⟩
 ·have:i=0:=by simpa using hi
  subst this
  refine ⟨.sl .nil [],fun R Hx a b ha hb=>?_,fun Hx _=>rfl⟩
  simp -implicitDefEqProofs only [evop,ha,bnd,hb,natOf_nat]
  simp
  rfl
 ·refine ⟨.msl c 0 i n,fun R Hx a b ha hb=>?_,fun Hx hx=>?_⟩
  ·simp -implicitDefEqProofs only [evop,ha,bnd,hb,natOf_nat]
   rw [if_pos ⟨trivial,Nat.zero_le _,hi⟩]
   by_cases h0:0=i
   ·subst h0;rfl
   ·rw [if_neg h0];simp
  ·have:=elems_sub hn (mut_blk hx (c:=c) rfl) 0 i (by omega)
   simpa using this
theorem sll_hi {α:Type} {enc:α→List T} {n n0:Nat} (hn:∀ x,(enc x).length=n) {H:Heap} {t:T} {l:List α} (h:Mut enc n n0 H t l) {i:Nat} (hi:i≤l.length):∃ t',(∀ R Hx a b,(X.r a).ev R=t→(X.r b).ev R=.int .i64 i→evop R Hx (.sll n (.r a) (some (.r b)) none none)=some (t',Hx))∧∀ Hx,Mut enc n n0 Hx t l→elemsOf Hx n t'=some ((l.drop i).map enc):=by
 rcases h with ⟨rfl,rfl⟩ | ⟨c,rfl,hc,_⟩
 ·have:i=0:=by simpa using hi
  subst this
  refine ⟨.sl .nil [],fun R Hx a b ha hb=>?_,fun Hx _=>rfl⟩
  simp -implicitDefEqProofs only [evop,ha,bnd,hb,natOf_nat]
  simp
  rfl
 ·refine ⟨if i=l.length then (if i=0 then .msl c 0 0 n else .sl .arg []) else .msl c (0+i*n) (l.length-i) n,fun R Hx a b ha hb=>?_,fun Hx hx=>?_⟩
  ·simp -implicitDefEqProofs only [evop,ha,bnd,hb,natOf_nat]
   rw [if_pos ⟨trivial,hi,Nat.le_refl _⟩]
  ·have h1:=elems_sub hn (mut_blk hx (c:=c) rfl) i (l.length-i) (by omega)
   by_cases e:i=l.length
   ·rw [if_pos e]
    subst e
    by_cases e2:l.length=0
    ·rw [if_pos e2]
     have:=elems_sub hn (mut_blk hx (c:=c) rfl) 0 0 (by omega)
     simpa using this
    ·rw [if_neg e2];simp [elemsOf]
   ·rw [if_neg e,Nat.zero_add,h1,List.take_of_length_le (by rw [List.length_drop];omega)]
structure Ins {α:Type} (enc:α→List T) (n bytes:Nat) (H:Heap) (t:T) (l:List α) (i:Nat) (t1:T) (H1:Heap) (ta tz:T):Prop where
 lo:∀ R Hx a b,(X.r a).ev R=t→(X.r b).ev R=.int .i64 i→evop R Hx (.sll n (.r a) none (some (.r b)) none)=some (ta,Hx)
 hi:∀ R Hx a b,(X.r a).ev R=t→(X.r b).ev R=.int .i64 i→evop R Hx (.sll n (.r a) (some (.r b)) none none)=some (tz,Hx)
 ea:elemsOf H n ta=some ((l.take i).map enc)
 a1:appM H n bytes (.sl .nil []) ((l.take i).map enc)=some (t1,H1)
 m1:Mut enc n 0 H1 t1 (l.take i)
 x1:Ext H H1
 b1:∀ c,tb t1=some c→H.length≤c
 ez:∀ Hx,Mut enc n 0 Hx t l→elemsOf Hx n tz=some ((l.drop i).map enc)
theorem ins_mk {α:Type} {enc:α→List T} {n bytes:Nat} (hn:∀ x,(enc x).length=n) {H:Heap} {t:T} {l:List α} (h:Mut enc n 0 H t l) {i:Nat} (hi:i≤l.length) (hr:∀ j,j≤l.length+1→roomOk j bytes=true):∃ t1 H1 ta tz,Ins enc n bytes H t l i t1 H1 ta tz:=by
 obtain ⟨ta,lo,ea⟩:=sll_lo hn h hi
 obtain ⟨tz,hi',ez⟩:=sll_hi hn h hi
 obtain ⟨t1,H1,a1,m1,f1,b1⟩:=appM_any hn (bytes:=bytes) (l.take i) (mut_nil enc n 0 H) (hr _ (by simp;omega))
 exact ⟨t1,H1,ta,tz,lo,hi',ea H h,a1,by simpa using m1,frm_ext (f1.mono fun c hc=>by cases hc),fun c hc=>(b1 c hc).elim (fun h=>by cases h.1) id,ez⟩
theorem app_own {α:Type} {enc:α→List T} {n bytes:Nat} (hn:∀ x,(enc x).length=n) {H0 H:Heap} {t:T} {l:List α} (h:Mut enc n 0 H t l) (hx:Ext H0 H) (hb:∀ c,tb t=some c→H0.length≤c) (new:List α) (hr:roomOk (l.length+new.length) bytes=true) :
  ∃ t' H',appM H n bytes t (new.map enc)=some (t',H')∧Mut enc n 0 H' t' (l++new)∧Ext H0 H'∧∀ c,tb t'=some c→H0.length≤c:=by
 obtain ⟨t',H',ha,hm,hf,hb'⟩:=appM_any hn (bytes:=bytes) new h hr
 have:=hx.len
 refine ⟨t',H',ha,hm,frm_ext ((ext_frm (F:=fun _=>False) hx).more hf hb),fun c hc=>?_⟩
 rcases hb' c hc with h | h
 ·exact hb c h.1
 ·omega
theorem rmay81 (n:Nat) (k k':SK) (l:List (ByteArray × ByteArray)) (ks:List ByteArray) (H:Heap) (hl:l.length≤8000000) (hks:ks.length≤8000000) :
  W env (.call 114 [.int .u64 n,.sl k (l.map eP),.sl k' (ks.map eS)]) H (fun o H'=>Ext H H'∧∃ b,o=.val (.bool b)∧(b=true↔MayP n l ks)):=by
 refine W.fnI rfl rfl rfl ?_
 have no:¬ MayP n l ks→((false:Bool)=true↔MayP n l ks):=fun h=>⟨fun e=>(by cases e),fun e=>absurd e h⟩
 simp -implicitDefEqProofs only [ir114,op,ef,cl,sq,reduceIte,q4,q5,j2,j3,j4,j5,j6,j7,j8,S1]
 refine callB_of _ _ _ _ _ _ _ _ (rid68 n _) ?_
 rintro u H2 ⟨hu,rfl⟩
 cases hu
 by_cases hn:n<65536
 ·have hd:decide (65536≤n)=false:=decide_eq_false (by omega)
  simp -implicitDefEqProofs only [op,ef,cl,sq,reduceIte,q4,q5,j2,j3,j4,j5,j6,j7,j8,S1,hd]
  exact ⟨Ext.rfl',false,rfl,no fun h=>by have:=h.1;omega⟩
 have hd:decide (65536≤n)=true:=decide_eq_true (by omega)
 simp -implicitDefEqProofs only [op,ef,cl,sq,reduceIte,q4,q5,j2,j3,j4,j5,j6,j7,j8,S1,hd]
 refine callB_of _ _ _ _ _ _ _ _ (rwhole69 k' ks _ (by omega)) ?_
 rintro u H2 ⟨hu,rfl⟩
 cases hu
 cases hg:goodB ks
 ·simp -implicitDefEqProofs only [op,ef,cl,sq,reduceIte,q4,q5,j2,j3,j4,j5,j6,j7,j8,S1]
  exact ⟨Ext.rfl',false,rfl,no fun h=>by have:=goodB_iff.2 h.2.1;rw [hg] at this;cases this⟩
 have hgk:=goodB_iff.1 hg
 by_cases hl1:l.length<1
 ·simp -implicitDefEqProofs only [op,ef,cl,sq,reduceIte,q4,q5,j2,j3,j4,j5,j6,j7,j8,S1,List.length_map,hl1]
  exact ⟨Ext.rfl',false,rfl,no fun h=>by have:=h.2.2.1;omega⟩
 simp -implicitDefEqProofs only [op,ef,cl,sq,reduceIte,q4,q5,j2,j3,j4,j5,j6,j7,j8,S1,List.length_map,hl1]
 refine W.loopV [(1,_),(2,_)] (fun (i:Nat) R H'=>At H' (fun H'=>Ext H2 H')∧R 7=.int .i64 i∧i≤l.length∧∀ j,j<i→OkPair l ks j) (fun i=>l.length-i) 0 ⟨.i Ext.rfl',rfl,Nat.zero_le _,fun j hj=>by omega⟩ ?_
 rintro i R H3 ⟨hx,g7,hi,hok⟩
 have hx:Ext H2 H3:=hx
 by_cases hlt:i<l.length
 ·obtain ⟨p,hp⟩:=getP hlt
  have wsi:=wrap_succ (show i<9223372036854775807 by omega)
  have ip:=iadX (e:=eP) (n:=2) (fun _=>rfl) (by decide) (k:=k) hp
  have bad:¬ OkPair l ks i→((false:Bool)=true↔MayP n l ks):=fun hb=>no fun h=>hb (h.2.2.2 i hlt)
  obtain ⟨H4,hH4⟩:∃ H4,H4=H3++[B.cells [T.str p.1,.str p.2]]:=⟨_,rfl⟩
  have hx4:Ext H3 H4:=⟨_,hH4⟩
  have c0:H4[H3.length]?=some (.cells [T.str p.1,.str p.2]):=by rw [hH4];exact g_tail rfl
  have ld2:∀ Hx,ldc Hx 2 (.iptr (eP p))=some [.str p.1,.str p.2]:=fun _=>rfl
  simp -implicitDefEqProofs only [mkR_nil,mkR_cons,op,ef,cl,sq,reduceIte,q4,q5,j2,j3,j4,j5,j6,j7,j8,S1,S2,S3,List.length_map,g7,hlt,natOf_nat,ip,ld2]
  rw [← hH4]
  refine callB_of _ _ _ _ _ _ _ _ (rhas70 k' ks p.1 _ (by omega)) ?_
  rintro u H5 ⟨hu,rfl⟩
  cases hu
  cases hm:memB ks p.1
  ·simp -implicitDefEqProofs only [mkR_nil,mkR_cons,op,ef,cl,sq,reduceIte,q4,q5,j2,j3,j4,j5,j6,j7,j8,S1,c0]
   exact ⟨hx.trans hx4,false,rfl,bad fun ho=>memB_no.1 hm (ho p hp).2.1⟩
  by_cases hsz:65535<p.2.size
  ·simp -implicitDefEqProofs only [mkR_nil,mkR_cons,op,ef,cl,sq,reduceIte,q4,q5,j2,j3,j4,j5,j6,j7,j8,S1,c0,hsz]
   exact ⟨hx.trans hx4,false,rfl,bad fun ho=>by have:=(ho p hp).2.2;omega⟩
  have fin:(0<i→∀ q,l[i-1]?=some q→strLt q.1 p.1=true)→∀ j,j<i+1→OkPair l ks j:=fun hs j hj=>by
   by_cases e:j=i
   ·subst e;intro p' hp';rw [hp] at hp';cases hp'
    exact ⟨hs,memB_iff.1 hm,by omega⟩
   ·exact hok j (by omega)
  by_cases hi0:0<i
  ·obtain ⟨q,hq⟩:=getP (l:=l) (i:=i-1) (by omega)
   have wp:=wrap_pred (show i<9223372036854775807 by omega) hi0
   have iq:=iadX (e:=eP) (n:=2) (fun _=>rfl) (by decide) (k:=k) hq
   cases hc:strLt q.1 p.1
   ·simp -implicitDefEqProofs only [mkR_nil,mkR_cons,op,ef,cl,sq,reduceIte,q4,q5,j2,j3,j4,j5,j6,j7,j8,S1,c0,hsz,g7,hi0,wp,natOf_nat,iq,eP,hc]
    exact ⟨hx.trans hx4,false,rfl,bad fun ho=>by have:=(ho p hp).1 hi0 q hq;rw [hc] at this;cases this⟩
   ·simp -implicitDefEqProofs only [mkR_nil,mkR_cons,op,ef,cl,sq,reduceIte,q4,q5,j2,j3,j4,j5,j6,j7,j8,S1,c0,hsz,g7,hi0,wp,natOf_nat,iq,eP,hc,wsi]
    exact ⟨i+1,by omega,.i (hx.trans hx4),rfl,hlt,fin fun _ q' hq'=>by rw [hq] at hq';cases hq';exact hc⟩
  ·simp -implicitDefEqProofs only [mkR_nil,mkR_cons,op,ef,cl,sq,reduceIte,q4,q5,j2,j3,j4,j5,j6,j7,j8,S1,c0,hsz,g7,hi0,wsi]
   exact ⟨i+1,by omega,.i (hx.trans hx4),rfl,hlt,fin fun h=>absurd h hi0⟩
 ·have hie:i=l.length:=by omega
  subst hie
  simp -implicitDefEqProofs only [mkR_nil,mkR_cons,op,ef,cl,sq,reduceIte,q4,q5,j2,j3,j4,j5,j6,j7,j8,S1,List.length_map,g7,hlt]
  exact ⟨hx,true,rfl,⟨fun _=>⟨by omega,hgk,by omega,hok⟩,fun _=>rfl⟩⟩
theorem put_sn {a:Ab} {n:Nat} {l:List (ByteArray × ByteArray)} {ks:List ByteArray} {now:Int} {i:Nat} {p:ByteArray × ByteArray} (hp:l[i]?=some p) (hnd:(l.map (·.1)).Nodup) :
  a.put n (l.take (i+1)) ks now=⟨fun m=>if m=(p.1,n)∧a.has m=false then some ⟨p.2,ks,if n<a.last p.1 then now else -1⟩ else (a.put n (l.take i) ks now).v m,a.l⟩:=by
 refine ab_ext (fun m=>?_) fun k=>rfl
 have hno:p.1∉(l.take i).map (·.1):=fun hh=>by
  have h2:=hnd
  rw [← List.take_append_drop i l,drop_at hp,List.map_append,List.nodup_append] at h2
  exact h2.2.2 _ hh p.1 (by simp) rfl
 simp -implicitDefEqProofs only [put_v,take_sn hp,mlook_ap,mlook_cons,mlook_nil]
 cases hv:a.v m with
 | some x=>simp [Ab.has,hv]
 | none =>
  have hh:a.has m=false:=by simp [Ab.has,hv]
  by_cases e:m=(p.1,n)
  ·subst e
   simp -implicitDefEqProofs only [hh,mlook_none.2 hno];simp
  ·simp -implicitDefEqProofs only [e,false_and,if_false]
   by_cases e2:m.2=n
   ·have e3:m.1≠p.1:=fun h=>e (Prod.ext h e2)
    simp [e2,e3]
   ·simp [e2]
theorem fresh_sn {a:Ab} {n:Nat} {l:List (ByteArray × ByteArray)} {i:Nat} {p:ByteArray × ByteArray} (hp:l[i]?=some p):a.fresh n (l.take (i+1))=(a.fresh n (l.take i)||!a.has (p.1,n)):=by
 simp [Ab.fresh,take_sn hp,List.any_append]
theorem ins_fin {α:Type} {l:List α} {i:Nat} {x:α}:l.take i++[x]++l.drop i=l.take i++x :: l.drop i:=by simp
structure PutR (H H':Heap) (p:Nat) (tL:T) (K:List Kd) (L:List Nm) (G:Nat→Prop) (n:Nat) (l:List (ByteArray × ByteArray)) (ks:List ByteArray) (now:Int) (tK':T) (K':List Kd) (G':Nat→Prop):Prop where
 rc:RC H' p tK' tL K' L G'
 up:keptUp K'
 ab:ldAb K' L=(ldAb K L).put n l ks now
 len:K'.length≤K.length+l.length
 frm:Frm G H H'
 gro:Gro G G' H H'
theorem Gro.refl (G:Nat→Prop) (H H':Heap):Gro G G H H':=fun _ h=>.inl h
theorem PutR.ext {H H1 H2:Heap} {p:Nat} {tL:T} {K:List Kd} {L:List Nm} {G:Nat→Prop} {n:Nat} {l:List (ByteArray × ByteArray)} {ks:List ByteArray} {now:Int} {tK':T} {K':List Kd} {G':Nat→Prop} (h:PutR H H1 p tL K L G n l ks now tK' K' G') (hx:Ext H1 H2):PutR H H2 p tL K L G n l ks now tK' K' G' :=
 ⟨h.rc.ext hx,h.up,h.ab,h.len,h.frm.ext hx,fun c hc=>(h.gro c hc).imp id fun h=>⟨h.1,by have:=hx.len;omega⟩⟩
set_option maxHeartbeats 2000000 in
theorem rput51 {H:Heap} {p:Nat} {tK tL:T} {K:List Kd} {L:List Nm} {G:Nat→Prop} (h:RC H p tK tL K L G) (hs:keptUp K) (n:Nat) (k k':SK) (l:List (ByteArray × ByteArray)) (ks:List ByteArray) (now:Int) (hK:K.length+l.length≤8000000) (hL:L.length≤8000000) (hm:MayP n l ks) (ht:TickOk now) :
  W env (.call 74 [.ptr p 0,.int .u64 n,.sl k (l.map eP),.sl k' (ks.map eS),.int .i64 now]) H (fun o H'=>o=.val (.tup [.bool ((ldAb K L).fresh n l),.int .i64 0])∧∃ tK' K' G',PutR H H' p tL K L G n l ks now tK' K' G'):=by
 have hgk:=hm.2.1.2.2
 have hnd:=may_nd hm
 refine W.fnI rfl rfl rfl ?_
 simp -implicitDefEqProofs only [ir74,op,ef,cl,sq,reduceIte,q4,q5,j2,j3,j4,j5,j6,j7,j8,S1]
 refine callB_of _ _ _ _ _ _ _ _ (rmay81 n k k' l ks _ (by omega) (by omega)) ?_
 rintro u H1 ⟨hx1,bb,hu,hb⟩
 cases hu
 have hbt:=hb.2 hm
 subst hbt
 simp -implicitDefEqProofs only [op,ef,cl,sq,reduceIte,q4,q5,j2,j3,j4,j5,j6,j7,j8,S1]
 refine callB_of _ _ _ _ _ _ _ _ (rtick71 now _) ?_
 rintro u H2 ⟨hu,rfl⟩
 cases hu
 have htk:(decide (0≤now)&&decide (now≤1099511627776))=true:=by simp [ht.1,ht.2]
 simp -implicitDefEqProofs only [op,ef,cl,sq,reduceIte,q4,q5,j2,j3,j4,j5,j6,j7,j8,S1,htk]
 refine W.loopV [(0,_),(1,_),(2,_),(3,_),(4,_)] (fun (i:Nat) R H'=>At H' (fun H'=>∃ tK' K' G',PutR H H' p tL K L G n (l.take i) ks now tK' K' G')∧R 12=.bool ((ldAb K L).fresh n (l.take i))∧R 13=.int .i64 i∧i≤l.length) (fun i=>l.length-i) 0
  ⟨.i ⟨tK,K,G,h.ext hx1,hs,by rw [List.take_zero,put_0],by simp,ext_frm hx1,Gro.refl _ _ _⟩,rfl,rfl,Nat.zero_le _⟩ ?_
 rintro i R H3 ⟨⟨tK',K',G',pr⟩,g12,g13,hi⟩
 by_cases hlt:i<l.length
 rotate_left
 ·have hie:i=l.length:=by omega
  subst hie
  rw [List.take_length] at g12 pr
  simp -implicitDefEqProofs only [mkR_nil,mkR_cons,op,ef,cl,sq,reduceIte,q4,q5,j2,j3,j4,j5,j6,j7,j8,S1,List.length_map,g12,g13,hlt]
  exact ⟨tK',K',G',pr⟩
 obtain ⟨q,hq⟩:=getP hlt
 have wsi:=wrap_succ (show i<9223372036854775807 by omega)
 have iq:=iadX (e:=eP) (n:=2) (fun _=>rfl) (by decide) (k:=k) hq
 have h3:=pr.rc
 have hkl:K'.length≤K.length+i:=by have:=pr.len;rw [List.length_take] at this;omega
 simp -implicitDefEqProofs only [mkR_nil,mkR_cons,op,ef,cl,sq,reduceIte,q4,q5,j2,j3,j4,j5,j6,j7,j8,S1,List.length_map,g13,hlt,natOf_nat,iq,eP]
 refine callB_of _ _ _ _ _ _ _ _ (rfind34 h3 pr.up (by omega) (q.1,n)) ?_
 rintro u H4 ⟨hx4,hu⟩
 cases hu
 have hx4:Ext H3 H4:=hx4
 have hno0:q.1∉(l.take i).map (·.1):=fun hh=>by
  have h2:=hnd
  rw [← List.take_append_drop i l,drop_at hq,List.map_append,List.nodup_append] at h2
  exact h2.2.2 _ hh q.1 (by simp) rfl
 have hmem:memN (K'.map Kd.nm) (q.1,n)=(ldAb K L).has (q.1,n):=by
  have e1:memN (K'.map Kd.nm) (q.1,n)=(ldAb K' L).has (q.1,n):=by
   rw [Bool.eq_iff_iff,memN_iff,← kdL_key,mem_keys];rfl
  rw [e1,pr.ab,has_put,mlook_none.2 hno0];simp
 rw [hmem]
 cases hh:(ldAb K L).has (q.1,n)
 rotate_left
 ·have hsn:(ldAb K L).put n (l.take (i+1)) ks now=(ldAb K L).put n (l.take i) ks now:=by
   rw [put_sn hq hnd]
   refine ab_ext (fun m=>?_) fun _=>rfl
   simp only
   rw [if_neg]
   rintro ⟨rfl,hf⟩
   rw [hh] at hf;cases hf
  have hfr:=fresh_sn (a:=ldAb K L) (n:=n) hq
  rw [hh,Bool.not_true,Bool.or_false] at hfr
  simp -implicitDefEqProofs only [mkR_nil,mkR_cons,op,ef,cl,sq,reduceIte,q4,q5,j2,j3,j4,j5,j6,j7,j8,S1,g12,g13,wsi]
  refine ⟨i+1,by omega,.i ⟨tK',K',G',?_⟩,by rw [hfr],rfl,hlt⟩
  have p4:=pr.ext hx4
  exact ⟨p4.rc,p4.up,by rw [p4.ab,hsn],by have:=p4.len;rw [List.length_take] at this ⊢;omega,p4.frm,p4.gro⟩
 obtain ⟨at_,hat⟩:∃ at_,at_=fiK K' (q.1,n):=⟨_,rfl⟩
 have hale:at_≤K'.length:=by rw [hat];exact tw_le _ _
 have h4:=h3.ext hx4
 obtain ⟨kk,H5,ha5,hx5,hkk⟩:=app_nil (enc:=eS) (n:=1) (bytes:=16) (fun _=>rfl) ks (roomS (by omega) (by omega)) (H4++[B.cells [.str ⟨#[]⟩,.int .u64 0,.str ⟨#[]⟩,.sl .nil [],.int .i64 0]])
 have hall:=all_map (enc:=eS) (n:=1) (fun _=>rfl) ks
 have c5:H5[H4.length]?=some (.cells [.str ⟨#[]⟩,.int .u64 0,.str ⟨#[]⟩,.sl .nil [],.int .i64 0]):=hx5.get (g_tail rfl)
 have l5:=glt c5
 have hx45:Ext H4 H5:=(Ext.rfl'.app _).trans hx5
 rw [← hat]
 simp -implicitDefEqProofs only [mkR_nil,mkR_cons,op,ef,cl,sq,reduceIte,q4,q5,j2,j3,j4,j5,j6,j7,j8,S1,S2,S3,g13,natOf_nat,iq,eP,hall,ha5,c5,l5]
 obtain ⟨H6,hH6⟩:∃ H6,H6=H5.set H4.length (B.cells [.str q.1,.int .u64 n,.str q.2,.sl kk (ks.map eS),.int .i64 (-1)]):=⟨_,rfl⟩
 have hx46:Ext H4 H6:=by rw [hH6];exact hx45.set (Nat.le_refl _) _
 have c6:H6[H4.length]?=some (.cells [.str q.1,.int .u64 n,.str q.2,.sl kk (ks.map eS),.int .i64 (-1)]):=by rw [hH6];exact g_eq l5
 rw [← hH6]
 refine callB_of _ _ _ _ _ _ _ _ (rlast56 (h4.ext hx46) hL q.1) ?_
 rintro u H7 ⟨hu,rfl⟩
 cases hu
 have hlast:(ldAb K' L).last q.1=(ldAb K L).last q.1:=rfl
 rw [hlast]
 simp -implicitDefEqProofs only [mkR_nil,mkR_cons,op,ef,cl,sq,reduceIte,q4,q5,j2,j3,j4,j5,j6,j7,j8,S1]
 refine condC_cut [(0,_),(1,_),(2,_),(3,_),(4,_),(12,_),(13,_),(14,_),(16,_)] (fun R' H'=>At H' (fun H'=>Ext H4 H'∧H'[H4.length]?=some (.cells [.str q.1,.int .u64 n,.str q.2,.sl kk (ks.map eS),.int .i64 (if n<(ldAb K L).last q.1 then now else -1)]))) ?_ ?_
 ·have l6:=glt c6
  by_cases hl2:n<(ldAb K L).last q.1
  ·simp -implicitDefEqProofs only [mkR_nil,mkR_cons,op,ef,cl,sq,reduceIte,q4,q5,j2,j3,j4,j5,j6,j7,j8,S1,hl2,c6,l6,normO_n]
   exact .i ⟨hx46.set (Nat.le_refl _) _,g_eq l6⟩
  ·simp -implicitDefEqProofs only [mkR_nil,mkR_cons,op,ef,cl,sq,reduceIte,q4,q5,j2,j3,j4,j5,j6,j7,j8,S1,hl2,normO_n]
   exact .i ⟨hx46,c6⟩
 rintro R' H8 ⟨hx8,c8⟩
 have hx8:Ext H4 H8:=hx8
 have h8:=h4.ext hx8
 obtain ⟨t1,H9,ta,tz,I⟩:=ins_mk (enc:=eKd) (n:=5) (bytes:=72) (fun _=>rfl) h8.mK hale (fun j hj=>roomT (by omega))
 obtain ⟨x,hx⟩:∃ x:Kd,x=⟨q.1,n,q.2,.arg,ks,if n<(ldAb K L).last q.1 then now else -1⟩:=⟨_,rfl⟩
 have lt1:(K'.take at_).length=at_:=by rw [List.length_take];omega
 obtain ⟨t2,H10,a2,m2,x2,b2⟩:=app_own (enc:=eKd) (n:=5) (bytes:=72) (fun _=>rfl) I.m1 I.x1 I.b1 [x] (roomT (by rw [lt1,List.length_singleton];omega))
 obtain ⟨t3,H11,a3,m3,x3,b3⟩:=app_own (enc:=eKd) (n:=5) (bytes:=72) (fun _=>rfl) m2 x2 b2 (K'.drop at_) (roomT (by rw [List.length_append,lt1,List.length_singleton,List.length_drop];omega))
 have e2:=(h8.ext x2).hp
 have ez:=I.ez H10 (h8.ext x2).mK
 have c9:=I.x1.get c8
 rw [ins_fin] at m3
 have hx3:Ext H3 H8:=hx4.trans hx8
 obtain ⟨hp11,frm11,G2,rc11,gro11⟩:=h3.setK (ext_frm (hx3.trans x3)) m3 (fun c hc=>by have:=b3 c hc;have:=hx3.len;omega) (fun y hy=>by
  have hy:y∈K'.take at_++x :: K'.drop at_:=hy
  rcases List.mem_append.1 hy with hy | hy
  ·exact h3.ko y (List.mem_of_mem_take hy)
  ·rcases List.mem_cons.1 hy with hy | hy
   ·rw [hy,hx];exact ⟨rfl,hgk⟩
   ·exact h3.ko y (List.mem_of_mem_drop hy))
 have l11:=glt hp11
 have hins:K'.take at_++x :: K'.drop at_=insK K' x:=by rw [insK,hat,hx];rfl
 have hnm:x.nm=(q.1,n):=by rw [hx];rfl
 have hvd:x.vd=⟨q.2,ks,if n<(ldAb K L).last q.1 then now else -1⟩:=by rw [hx];rfl
 have hno:x.nm∉K'.map Kd.nm:=fun hh2=>by
  rw [hnm,← memN_iff,hmem,hh] at hh2;cases hh2
 have hab:ldAb (insK K' x) L=(ldAb K L).put n (l.take (i+1)) ks now:=by
  rw [put_sn hq hnd]
  refine ab_ext (fun m=>?_) fun _=>rfl
  have e1:(ldAb K' L).v m=((ldAb K L).put n (l.take i) ks now).v m:=by rw [pr.ab]
  show mlook (kdL (insK K' x)) m=_
  rw [insK_look hno,hnm,hvd]
  simp only
  rw [← e1]
  by_cases e:m=(q.1,n)
  ·subst e;simp -implicitDefEqProofs only [hh,if_true,and_self]
  ·simp -implicitDefEqProofs only [e,if_false,false_and];rfl
 have hlen:=insK_len K' x
 have fgt0:fgt (.sl .nil [])=.sl .nil []:=rfl
 rw [hins] at rc11
 have hfr:=fresh_sn (a:=ldAb K L) (n:=n) hq
 rw [hh,Bool.not_false,Bool.or_true] at hfr
 simp -implicitDefEqProofs only [hx,eKd,List.map_cons,List.map_nil] at a2
 simp -implicitDefEqProofs only [mkR_nil,mkR_cons,op,ef,cl,sq,reduceIte,q4,q5,j2,j3,j4,j5,j6,j7,j8,S1,g13,h8.hp,↓I.lo,I.ea,fgt0,I.a1,c9,fgt_mut I.m1,a2,e2,↓I.hi,ez,fgt_mut m2,a3,hp11,l11,cells_mut m3,wsi]
 exact ⟨i+1,by omega,.i ⟨t3,_,G2,rc11,insK_up pr.up hno,hab,by rw [hlen,List.length_take];have:=pr.len;rw [List.length_take] at this;omega,pr.frm.trans frm11 fun c hc=>by
  rcases pr.gro c hc with h | h
  ·exact .inl h
  ·exact .inr h.1,pr.gro.trans gro11 pr.frm.1 frm11.1⟩,by rw [hfr],rfl,hlt⟩
theorem ins_up {α:Type} {lt:α→α→Bool} (tr:∀ {a b c},lt a b=true→lt b c=true→lt a c=true) {l:List α} (hs:l.Pairwise (fun a b=>lt a b=true)) {x:α} (hd:∀ y∈l,lt y x=false→lt x y=true) {i:Nat} (h1:∀ j y,j<i→l[j]?=some y→lt y x=true) (h2:∀ y,l[i]?=some y→lt y x=false) :
  (l.take i++x :: l.drop i).Pairwise (fun a b=>lt a b=true):=by
 have ht:∀ y∈l.take i,lt y x=true:=fun y hy=>by
  obtain ⟨j,hj,e⟩:=List.getElem_of_mem hy
  rw [List.length_take] at hj
  rw [List.getElem_take] at e
  exact h1 j y (by omega) (by rw [List.getElem?_eq_getElem (by omega),e])
 have hdd:∀ z∈l.drop i,lt x z=true:=fun z hz=>by
  by_cases hlt:i<l.length
  ·obtain ⟨y,hy⟩:=getP hlt
   have h3:=hd y (List.mem_of_getElem? hy) (h2 y hy)
   rcases drop_ge hs hy hz with rfl | h
   ·exact h3
   ·exact tr h3 h
  ·rw [List.drop_eq_nil_of_le (by omega)] at hz;cases hz
 refine List.pairwise_append.2 ⟨hs.sublist (List.take_sublist _ _),List.pairwise_cons.2 ⟨hdd,hs.sublist (List.drop_sublist _ _)⟩,fun y hy z hz=>?_⟩
 rcases List.mem_cons.1 hz with rfl | hz
 ·exact ht y hy
 ·exact tr (ht y hy) (hdd z hz)
theorem up_set {l:List Nm} (hs:lastsUp l) {i:Nat} {x:Nm} (hx:l[i]?=some x) (n:Nat):lastsUp (l.set i (x.1,n)):=by
 have e:(l.set i (x.1,n)).map (·.1)=l.map (·.1):=by
  rw [List.map_set]
  refine List.ext_getElem? fun j=>?_
  rw [List.getElem?_set]
  split
  ·rename_i hj;subst hj
   rw [List.getElem?_map,hx];simp
   have:=(List.getElem?_eq_some_iff.1 hx).1
   omega
  ·rfl
 have h1:(l.map (·.1)).Pairwise (fun a b=>strLt a b=true):=List.pairwise_map.2 hs
 rw [← e] at h1
 exact List.pairwise_map.1 h1
theorem look_set {l:List Nm} (hs:lastsUp l) {i:Nat} {x:Nm} (hx:l[i]?=some x) (n:Nat) (k:ByteArray):mlook (l.set i (x.1,n)) k=if k=x.1 then some n else mlook l k:=by
 have hi:=(List.getElem?_eq_some_iff.1 hx).1
 have e:l.set i (x.1,n)=l.take i++(x.1,n) :: l.drop (i+1):=by rw [List.set_eq_take_append_cons_drop,if_pos hi]
 have e0:l=l.take i++x :: l.drop (i+1):=by rw [← drop_at hx,List.take_append_drop]
 have hno:x.1∉(l.take i).map (·.1):=fun hh=>by
  have h2:=hs.nd
  rw [e0,List.map_append,List.nodup_append] at h2
  exact h2.2.2 _ hh x.1 (by simp) rfl
 have h3:mlook l k=if k=x.1 then some x.2 else mlook (l.take i++l.drop (i+1)) k:=by
  conv=>lhs;rw [e0]
  exact mlook_ins _ _ _ hno k
 rw [e,mlook_ins (l.take i) (l.drop (i+1)) (x.1,n) hno,h3]
 by_cases hk:k=x.1
 ·simp [hk]
 ·simp [hk]
theorem RC.wrL {H:Heap} {p c:Nat} {tK tL:T} {K:List Kd} {L L':List Nm} {G:Nat→Prop} (h:RC H p tK tL K L G) (hc:tb tL=some c) (hl:L'.length=L.length):RC (H.set c (.cells (msC eW L'))) p tK tL K L' G∧Frm G H (H.set c (.cells (msC eW L'))):=by
 have f:Frm (fun d=>d=c) H (H.set c (.cells (msC eW L'))):=(Frm.refl (fun d=>d=c) H).set (.inl rfl) _
 have hb:=mut_blk h.mL hc
 refine ⟨⟨f.get h.hp fun e=>(h.gL c hc).2 e.symm,mut_frm h.mK f fun d hd e=>h.ne d hd (e ▸ hc),?_,h.gp,h.gK,h.gL,h.ne,h.ko⟩,f.mono fun d e=>e ▸ (h.gL c hc).1⟩
 rcases h.mL with ⟨_,e⟩ | ⟨c',e,hb',h0⟩
 ·rw [e] at hc;cases hc
 ·rw [e] at hc;cases hc
  exact .inr ⟨c,by rw [e,hl],g_eq (glt hb'),h0⟩
theorem RC.wrK {H:Heap} {p c:Nat} {tK tL:T} {K K':List Kd} {L:List Nm} {G:Nat→Prop} (h:RC H p tK tL K L G) (hc:tb tK=some c) (hl:K'.length=K.length) (hko:∀ x∈K',x.kk=.arg∧x.keys.length≤1024):RC (H.set c (.cells (msC eKd K'))) p tK tL K' L G∧Frm G H (H.set c (.cells (msC eKd K'))):=by
 have f:Frm (fun d=>d=c) H (H.set c (.cells (msC eKd K'))):=(Frm.refl (fun d=>d=c) H).set (.inl rfl) _
 have hb:=mut_blk h.mK hc
 refine ⟨⟨f.get h.hp fun e=>(h.gK c hc).2 e.symm,?_,mut_frm h.mL f fun d hd e=>h.ne c hc (e ▸ hd),h.gp,h.gK,h.gL,h.ne,hko⟩,f.mono fun d e=>e ▸ (h.gK c hc).1⟩
 rcases h.mK with ⟨_,e⟩ | ⟨c',e,hb',h0⟩
 ·rw [e] at hc;cases hc
 ·rw [e] at hc;cases hc
  exact .inr ⟨c,by rw [e,hl],g_eq (glt hb'),h0⟩
structure RaiR (H H':Heap) (p:Nat) (tK:T) (K:List Kd) (L:List Nm) (G:Nat→Prop) (k:ByteArray) (n:Nat) (tL':T) (L':List Nm) (G':Nat→Prop):Prop where
 rc:RC H' p tK tL' K L' G'
 up:lastsUp L'
 look:∀ k',mlook L' k'=if k'=k then some n else mlook L k'
 len:L'.length≤L.length+1
 frm:Frm G H H'
 gro:Gro G G' H H'
set_option maxHeartbeats 1000000 in
theorem raise82 {H:Heap} {p:Nat} {tK tL:T} {K:List Kd} {L:List Nm} {G:Nat→Prop} (h:RC H p tK tL K L G) (hs:lastsUp L) (hL:L.length<8000000) (k:ByteArray) (n:Nat) :
  W env (.call 119 [.ptr p 0,.str k,.int .u64 n]) H (fun o H'=>o=.val (.tup [])∧∃ tL' L' G',RaiR H H' p tK K L G k n tL' L' G'):=by
 have hlen:=len_mut h.mL
 have lp:=glt h.hp
 have r0:∀ {i:Nat} {x:Nm},L[i]?=some x→ldcB 1 (i*2+0) (some (.cells (msC eW L)))=some [.str x.1]:=fun hx=>msC_get (enc:=eW) (n:=2) (fun _=>rfl) hx 0 1 (by decide)
 refine W.fnI rfl rfl rfl ?_
 simp -implicitDefEqProofs only [ir119,op,ef,cl,sq,reduceIte,q4,q5,j2,j3,j4,j5,j6,j7,j8,S1]
 refine W.loopX 0 [(0,_),(1,_),(2,_)] (fun (i:Nat) R H'=>H'=H∧R 6=.int .i64 i∧i≤L.length∧∀ j x,j<i→L[j]?=some x→strLt x.1 k=true) (fun i=>L.length-i) 0
  (fun R H'=>H'=H∧∃ i:Nat,R 6=.int .i64 i∧i≤L.length∧(∀ j x,j<i→L[j]?=some x→strLt x.1 k=true)∧∀ x,L[i]?=some x→strLt x.1 k=false) ⟨rfl,rfl,Nat.zero_le _,fun j x hj=>by omega⟩ ?_ ?_
 ·rintro i R H1 ⟨rfl,g6,hi,hall⟩
  by_cases hlt:i<L.length
  ·obtain ⟨x,hx⟩:=getP hlt
   obtain ⟨c,hc,ia,_⟩:=mut_n (enc:=eW) (n:=2) (fun _=>rfl) (by decide) h.mL hx
   have wsi:=wrap_succ (show i<9223372036854775807 by omega)
   cases hlk:strLt x.1 k
   ·simp -implicitDefEqProofs only [mkR_nil,mkR_cons,op,ef,cl,sq,reduceIte,q4,q5,j2,j3,j4,j5,j6,j7,j8,S1,h.hp,hlen,g6,hlt,natOf_nat,ia,hc,r0 hx,hlk]
    exact ⟨i,rfl,hi,hall,fun y hy=>by rw [hx] at hy;cases hy;exact hlk⟩
   ·simp -implicitDefEqProofs only [mkR_nil,mkR_cons,op,ef,cl,sq,reduceIte,q4,q5,j2,j3,j4,j5,j6,j7,j8,S1,h.hp,hlen,g6,hlt,natOf_nat,ia,hc,r0 hx,hlk,wsi]
    refine ⟨i+1,by omega,rfl,hlt,fun j y hj hy=>?_⟩
    by_cases e:j=i
    ·subst e;rw [hx] at hy;cases hy;exact hlk
    ·exact hall j y (by omega) hy
  ·simp -implicitDefEqProofs only [mkR_nil,mkR_cons,op,ef,cl,sq,reduceIte,q4,q5,j2,j3,j4,j5,j6,j7,j8,S1,h.hp,hlen,g6,hlt]
   exact ⟨i,rfl,hi,hall,fun y hy=>by have:=(List.getElem?_eq_some_iff.1 hy).1;omega⟩
 rintro R H1 ⟨rfl,i,g6,hi,hall,hge⟩
 by_cases hin:∃ x,L[i]?=some x∧x.1=k
 ·obtain ⟨x,hx,rfl⟩:=hin
  have hlt:=(List.getElem?_eq_some_iff.1 hx).1
  obtain ⟨c,hc,ia,_⟩:=mut_n (enc:=eW) (n:=2) (fun _=>rfl) (by decide) h.mL hx
  have hst:=msC_set (enc:=eW) (n:=2) (y:=(x.1,n)) (fun _=>rfl) hx H1 c [.int .u64 n] 1 (by simp) rfl
  have htb:=tb_of h.mL hx ia (by decide)
  obtain ⟨rc,fr⟩:=h.wrL (L':=L.set i (x.1,n)) htb (by simp)
  simp -implicitDefEqProofs only [mkR_nil,mkR_cons,op,ef,cl,sq,reduceIte,q4,q5,j2,j3,j4,j5,j6,j7,j8,S1,h.hp,hlen,g6,hlt,natOf_nat,ia,hc,r0 hx,hst]
  exact ⟨rfl,tL,_,G,rc,up_set hs hx n,look_set hs hx n,by simp,fr,Gro.refl _ _ _⟩
 ·have hno:∀ x,L[i]?=some x→x.1≠k:=fun x hx e=>hin ⟨x,hx,e⟩
  obtain ⟨t1,H2,ta,tz,I⟩:=ins_mk (enc:=eW) (n:=2) (bytes:=24) (fun _=>rfl) h.mL hi (fun j hj=>roomT (by omega))
  have lt1:(L.take i).length=i:=by rw [List.length_take];omega
  obtain ⟨t2,H3,a2,m2,x2,b2⟩:=app_own (enc:=eW) (n:=2) (bytes:=24) (fun _=>rfl) I.m1 I.x1 I.b1 [(k,n)] (roomT (by rw [lt1,List.length_singleton];omega))
  obtain ⟨t3,H4,a3,m3,x3,b3⟩:=app_own (enc:=eW) (n:=2) (bytes:=24) (fun _=>rfl) m2 x2 b2 (L.drop i) (roomT (by rw [List.length_append,lt1,List.length_singleton,List.length_drop];omega))
  have e2:=(h.ext x2).hp
  have ez:=I.ez H3 (h.ext x2).mL
  rw [ins_fin] at m3
  obtain ⟨hp4,frm4,G2,rc4,gro4⟩:=h.setL (ext_frm x3) m3 b3
  have l4:=glt hp4
  have fgt0:fgt (.sl .nil [])=.sl .nil []:=rfl
  simp -implicitDefEqProofs only [eW,List.map_cons,List.map_nil] at a2
  have knot:k∉(L.take i).map (·.1):=fun hh=>by
   obtain ⟨y,hy,e⟩:=List.mem_map.1 hh
   obtain ⟨j,hj,e2⟩:=List.getElem_of_mem hy
   rw [List.length_take] at hj
   rw [List.getElem_take] at e2
   have:=hall j y (by omega) (by rw [List.getElem?_eq_getElem (by omega),e2])
   rw [e,lt_irr] at this;cases this
  have fin:∃ tL' L' G',RaiR H1 (H4.set p (.cells [tK,t3])) p tK K L G k n tL' L' G':=by
   refine ⟨t3,_,G2,rc4,?_,fun k'=>?_,?_,frm4,gro4⟩
   ·refine ins_up (lt:=fun a b:Nm=>strLt a.1 b.1) (fun h1 h2=>lt_trans' h1 h2) hs (x:=(k,n)) (fun y hy hf=>?_) hall hge
    cases e:strLt k y.1 with
    | true=>rfl
    | false =>
     exfalso
     have e3:=lt_tri hf e
     by_cases hlt:i<L.length
     ·obtain ⟨x,hx⟩:=getP hlt
      obtain ⟨j,hj,ej⟩:=List.getElem_of_mem hy
      have hyj:L[j]?=some y:=by rw [List.getElem?_eq_getElem hj,ej]
      by_cases c1:j<i
      ·have:=hall j y c1 hyj;rw [e3,lt_irr] at this;cases this
      ·by_cases c2:j=i
       ·subst c2;exact hno y hyj e3
       ·have h1:=List.pairwise_iff_getElem.1 hs i j hlt hj (by omega)
        rw [ej,(List.getElem?_eq_some_iff.1 hx).2] at h1
        have h2:=hge x hx
        rw [e3] at h1;rw [h1] at h2;cases h2
     ·obtain ⟨j,hj,ej⟩:=List.getElem_of_mem hy
      have:=hall j y (by omega) (by rw [List.getElem?_eq_getElem hj,ej])
      rw [e3,lt_irr] at this;cases this
   ·have:=mlook_ins (L.take i) (L.drop i) (k,n) knot k'
    rw [List.take_append_drop] at this
    exact this
   ·simp -implicitDefEqProofs only [List.length_append,List.length_take,List.length_cons,List.length_drop];omega
  by_cases hlt:i<L.length
  ·obtain ⟨x,hx⟩:=getP hlt
   obtain ⟨c,hc,ia,_⟩:=mut_n (enc:=eW) (n:=2) (fun _=>rfl) (by decide) h.mL hx
   have hne:=hno x hx
   simp -implicitDefEqProofs only [mkR_nil,mkR_cons,op,ef,cl,sq,reduceIte,q4,q5,j2,j3,j4,j5,j6,j7,j8,S1,h.hp,hlen,g6,hlt,natOf_nat,ia,hc,r0 hx,hne,↓I.lo,I.ea,fgt0,I.a1,fgt_mut I.m1,a2,e2,↓I.hi,ez,fgt_mut m2,a3,hp4,l4,cells_mut m3]
   exact ⟨rfl,fin⟩
  ·simp -implicitDefEqProofs only [mkR_nil,mkR_cons,op,ef,cl,sq,reduceIte,q4,q5,j2,j3,j4,j5,j6,j7,j8,S1,h.hp,hlen,g6,hlt,natOf_nat,↓I.lo,I.ea,fgt0,I.a1,fgt_mut I.m1,a2,e2,↓I.hi,ez,fgt_mut m2,a3,hp4,l4,cells_mut m3]
   exact ⟨rfl,fin⟩
def cntK (K:List Kd) (n:Nat):Nat:=(K.filter fun x=>decide (x.id=n)).length
theorem cnt_sn {K:List Kd} {i n:Nat} {x:Kd} (hx:K[i]?=some x):cntK (K.take (i+1)) n=cntK (K.take i) n+if x.id=n then 1 else 0:=by
 unfold cntK
 rw [take_sn hx,List.filter_append,List.length_append]
 by_cases e:x.id=n <;> simp [e]
theorem cnt_le (K:List Kd) (n:Nat):cntK K n≤K.length:=List.length_filter_le _ _
def stF (last:ByteArray→Nat) (now:Int) (x:Kd):Kd:=if x.stamp=-1∧x.id<last x.key then { x with stamp:=now } else x
theorem stF_nm (last:ByteArray→Nat) (now:Int) (x:Kd):(stF last now x).nm=x.nm:=by unfold stF;split <;> rfl
theorem stF_ko (last:ByteArray→Nat) (now:Int) (x:Kd) (h:x.kk=.arg∧x.keys.length≤1024):(stF last now x).kk=.arg∧(stF last now x).keys.length≤1024:=by unfold stF;split <;> exact h
theorem stF_up {K:List Kd} (h:keptUp K) (last:ByteArray→Nat) (now:Int):keptUp (K.map (stF last now)):=List.pairwise_map.2 (h.imp fun {a b} hab=>by rw [stF_nm,stF_nm];exact hab)
theorem look_map {K:List Kd} (hs:keptUp K) (f:Kd→Kd) (hf:∀ x,(f x).nm=x.nm) (m:Nm):mlook (kdL (K.map f)) m=(K.find? fun x=>decide (x.nm=m)).map fun x=>(f x).vd:=by
 induction K with
 | nil=>rfl
 | cons x K ih =>
  unfold keptUp at hs
  rw [List.pairwise_cons] at hs
  rw [List.map_cons,kdL_cons,mlook_cons,hf,List.find?_cons,ih hs.2]
  by_cases e:m=x.nm
  ·subst e;simp
  ·have e2:¬ x.nm=m:=fun h=>e h.symm
   simp [e,e2]
theorem look_find {K:List Kd} (hs:keptUp K) (m:Nm):mlook (kdL K) m=(K.find? fun x=>decide (x.nm=m)).map Kd.vd:=by
 have:=look_map hs id (fun _=>rfl) m
 rwa [List.map_id] at this
set_option maxHeartbeats 2000000 in
theorem rcommit52 {H:Heap} {p:Nat} {tK tL:T} {K:List Kd} {L:List Nm} {G:Nat→Prop} (h:RC H p tK tL K L G) (hs:keptUp K) (hl:lastsUp L) (hS:AbS (ldAb K L)) (hK:K.length≤3000000) (hL:L.length≤3000000) (n:Nat) (now:Int) (hid:65536≤n) (ht:TickOk now) :
  W env (.call 75 [.ptr p 0,.int .u64 n,.int .i64 now]) H (fun o H'=>o=.val (.tup [.int .i64 (cntK K n),.int .i64 0])∧∃ tL' K' L' G',RC H' p tK tL' K' L' G'∧keptUp K'∧lastsUp L'∧ldAb K' L'=(ldAb K L).com n now∧K'.length=K.length∧Frm G H H'∧Gro G G' H H'):=by
 have hlen:=len_mut h.mK
 have hhas:∀ k,memN (K.map Kd.nm) (k,n)=(ldAb K L).has (k,n):=fun k=>by
  rw [Bool.eq_iff_iff,memN_iff,← kdL_key,mem_keys];rfl
 refine W.fnI rfl rfl rfl ?_
 simp -implicitDefEqProofs only [ir75,op,ef,cl,sq,reduceIte,q4,q5,j2,j3,j4,j5,j6,j7,j8,S1]
 refine callB_of _ _ _ _ _ _ _ _ (rid68 n _) ?_
 rintro u H1 ⟨hu,rfl⟩
 cases hu
 have hd:decide (65536≤n)=true:=decide_eq_true hid
 simp -implicitDefEqProofs only [op,ef,cl,sq,reduceIte,q4,q5,j2,j3,j4,j5,j6,j7,j8,S1,hd]
 refine callB_of _ _ _ _ _ _ _ _ (rtick71 now _) ?_
 rintro u H1 ⟨hu,rfl⟩
 cases hu
 have htk:(decide (0≤now)&&decide (now≤1099511627776))=true:=by simp [ht.1,ht.2]
 simp -implicitDefEqProofs only [op,ef,cl,sq,reduceIte,q4,q5,j2,j3,j4,j5,j6,j7,j8,S1,htk]
 refine W.loopX 0 [(0,_),(1,_),(2,_)] (fun (i:Nat) R H'=>At H' (fun H'=>∃ tL' L' G',RC H' p tK tL' K L' G'∧lastsUp L'∧L'.length≤L.length+i∧(∀ k,mlook L' k=if memN ((K.take i).map Kd.nm) (k,n)=true∧(ldAb K L).last k<n then some n else mlook L k)∧Frm G H1 H'∧Gro G G' H1 H')∧R 8=.int .i64 (cntK (K.take i) n)∧R 9=.int .i64 i∧i≤K.length) (fun i=>K.length-i) 0
  (fun R H'=>At H' (fun H'=>∃ tL' L' G',RC H' p tK tL' K L' G'∧lastsUp L'∧L'.length≤L.length+K.length∧(∀ k,mlook L' k=((ldAb K L).com n now).l k)∧Frm G H1 H'∧Gro G G' H1 H')∧R 8=.int .i64 (cntK K n)) ⟨.i ⟨tL,L,G,h,hl,by omega,fun k=>by simp [memN],Frm.refl _ _,Gro.refl _ _ _⟩,rfl,rfl,Nat.zero_le _⟩ ?_ ?_
 ·rintro i R H2 ⟨⟨tL',L',G',h2,hl2,hn2,hk2,f2,g2⟩,g8,g9,hi⟩
  by_cases hlt:i<K.length
  rotate_left
  ·have hie:i=K.length:=by omega
   subst hie
   rw [List.take_length] at g8 hk2
   simp -implicitDefEqProofs only [mkR_nil,mkR_cons,op,ef,cl,sq,reduceIte,q4,q5,j2,j3,j4,j5,j6,j7,j8,S1,h2.hp,hlen,g8,g9,hlt]
   refine ⟨tL',L',G',h2,hl2,hn2,fun k=>?_,f2,g2⟩
   rw [hk2,hhas];rfl
  obtain ⟨x,hx⟩:=getP hlt
  obtain ⟨c,hc,ia,_⟩:=mut_n (enc:=eKd) (n:=5) (fun _=>rfl) (by decide) h2.mK hx
  have wsi:=wrap_succ (show i<9223372036854775807 by omega)
  have hcl:=cnt_le (K.take i) n
  rw [List.length_take] at hcl
  have wsc:=wrap_succ (show cntK (K.take i) n<9223372036854775807 by omega)
  have r0:ldcB 4 (i*5+0) (some (.cells (msC eKd K)))=some [.str x.key,.int .u64 x.id,.str x.value,.sl x.kk (x.keys.map eS)]:=msC_get (enc:=eKd) (n:=5) (fun _=>rfl) hx 0 4 (by decide)
  have hcn:=cnt_sn (n:=n) hx
  obtain ⟨H3,hH3⟩:∃ H3,H3=H2++[B.cells [T.str x.key,.int .u64 x.id,.str x.value,.sl x.kk (x.keys.map eS)]]:=⟨_,rfl⟩
  have hx3:Ext H2 H3:=⟨_,hH3⟩
  have c0:H3[H2.length]?=some (.cells [T.str x.key,.int .u64 x.id,.str x.value,.sl x.kk (x.keys.map eS)]):=by rw [hH3];exact g_tail rfl
  have h3:=h2.ext hx3
  have memsn:∀ k,memN ((K.take (i+1)).map Kd.nm) (k,n)=(memN ((K.take i).map Kd.nm) (k,n)||decide (x.nm=(k,n))):=fun k=>by
   rw [take_sn hx];simp [memN,List.any_append]
  by_cases hxn:x.id=n
  rotate_left
  ·have hm:∀ k,decide (x.nm=(k,n))=false:=fun k=>decide_eq_false fun e=>hxn (congrArg Prod.snd e)
   rw [if_neg hxn] at hcn
   simp -implicitDefEqProofs only [mkR_nil,mkR_cons,op,ef,cl,sq,reduceIte,q4,q5,j2,j3,j4,j5,j6,j7,j8,S1,S2,S3,h2.hp,hlen,g8,g9,hlt,natOf_nat,ia,hc,r0,hxn,wsi]
   rw [← hH3]
   exact ⟨i+1,by omega,.i ⟨tL',L',G',h3,hl2,by omega,fun k=>by rw [hk2,memsn,hm,Bool.or_false],f2.ext hx3,fun c hc=>(g2 c hc).imp id fun h=>⟨h.1,by have:=hx3.len;omega⟩⟩,by rw [hcn];rfl,rfl,hlt⟩
  rw [if_pos hxn] at hcn
  subst hxn
  simp -implicitDefEqProofs only [mkR_nil,mkR_cons,op,ef,cl,sq,reduceIte,q4,q5,j2,j3,j4,j5,j6,j7,j8,S1,S2,S3,h2.hp,hlen,g8,g9,hlt,natOf_nat,ia,hc,r0,wsc]
  rw [← hH3]
  have hni:memN ((K.take i).map Kd.nm) x.nm=false:=memN_no fun hh=>by
   have h4:=hs.nd
   rw [← List.take_append_drop i K,drop_at hx,List.map_append,List.nodup_append] at h4
   exact h4.2.2 _ hh x.nm (by simp) rfl
  have exn:x.nm=(x.key,x.id):=rfl
  rw [exn] at hni
  have hla:(ldAb K L').last x.key=(ldAb K L).last x.key:=by
   show (mlook L' x.key).getD 0=(mlook L x.key).getD 0
   rw [hk2,hni];simp
  refine callB_of _ _ _ _ _ _ _ _ (rlast56 h3 (by omega) x.key) ?_
  rintro u H4 ⟨hu,rfl⟩
  cases hu
  rw [hla]
  have hkk:∀ k,k≠x.key→decide (x.nm=(k,x.id))=false:=fun k e=>decide_eq_false fun e2=>e (congrArg Prod.fst e2).symm
  have hkx:decide (x.nm=(x.key,x.id))=true:=decide_eq_true rfl
  by_cases hl3:(ldAb K L).last x.key<x.id
  ·simp -implicitDefEqProofs only [mkR_nil,mkR_cons,op,ef,cl,sq,reduceIte,q4,q5,j2,j3,j4,j5,j6,j7,j8,S1,hl3,c0]
   refine callB_of _ _ _ _ _ _ _ _ (raise82 h3 hl2 (by omega) x.key x.id) ?_
   rintro u H5 ⟨hu,tL2,L2,G2,rr⟩
   cases hu
   simp -implicitDefEqProofs only [mkR_nil,mkR_cons,op,ef,cl,sq,reduceIte,q4,q5,j2,j3,j4,j5,j6,j7,j8,S1,g9,wsi]
   have f3:=f2.ext hx3
   have g3:Gro G G' H1 H4:=fun c hc=>(g2 c hc).imp id fun h=>⟨h.1,by have:=hx3.len;omega⟩
   refine ⟨i+1,by omega,.i ⟨tL2,L2,G2,rr.rc,rr.up,by have:=rr.len;omega,fun k=>?_,f3.trans rr.frm fun c hc=>(g3 c hc).imp id And.left,g3.trans rr.gro f3.1 rr.frm.1⟩,by rw [hcn],rfl,hlt⟩
   rw [rr.look,hk2,memsn]
   by_cases e:k=x.key
   ·subst e;simp -implicitDefEqProofs only [hkx,Bool.or_true,hl3,and_self,if_true]
   ·simp -implicitDefEqProofs only [hkk k e,Bool.or_false,e,if_false]
  ·simp -implicitDefEqProofs only [mkR_nil,mkR_cons,op,ef,cl,sq,reduceIte,q4,q5,j2,j3,j4,j5,j6,j7,j8,S1,hl3,g9,wsi]
   refine ⟨i+1,by omega,.i ⟨tL',L',G',h3,hl2,by omega,fun k=>?_,f2.ext hx3,fun c hc=>(g2 c hc).imp id fun h=>⟨h.1,by have:=hx3.len;omega⟩⟩,by rw [hcn],rfl,hlt⟩
   rw [hk2,memsn]
   by_cases e:k=x.key
   ·subst e;simp -implicitDefEqProofs only [hl3,and_false,if_false]
   ·simp -implicitDefEqProofs only [hkk k e,Bool.or_false]
 rintro R H2 ⟨⟨tL',L',G',h2,hl2,hn2,hk2,f2,g2⟩,g8⟩
 obtain ⟨f,hf⟩:∃ f,f=stF (ldAb K L').last now:=⟨_,rfl⟩
 have fko:∀ j,∀ x∈mapTo f K j,x.kk=.arg∧x.keys.length≤1024:=fun j x hx=>by
  rcases List.mem_append.1 hx with hx | hx
  ·obtain ⟨y,hy,rfl⟩:=List.mem_map.1 hx
   rw [hf];exact stF_ko _ _ _ (h2.ko y (List.mem_of_mem_take hy))
  ·exact h2.ko x (List.mem_of_mem_drop hx)
 simp -implicitDefEqProofs only [mkR_nil,mkR_cons,op,ef,cl,sq,reduceIte,q4,q5,j2,j3,j4,j5,j6,j7,j8,S1]
 refine W.loopV [(0,_),(2,_),(8,_)] (fun (j:Nat) R H'=>At H' (fun H'=>RC H' p tK tL' (mapTo f K j) L' G'∧Frm G' H2 H')∧R 11=.int .i64 j∧j≤K.length) (fun j=>K.length-j) 0 ⟨.i ⟨by rw [mapTo_0];exact h2,Frm.refl _ _⟩,rfl,Nat.zero_le _⟩ ?_
 rintro j R H3 ⟨⟨h3,f3⟩,g11,hj⟩
 by_cases hlt:j<K.length
 rotate_left
 ·have hje:j=K.length:=by omega
  subst hje
  rw [mapTo_end] at h3
  have ho:∀ c,G' c→G c∨H1.length≤c:=fun c hc=>(g2 c hc).imp id And.left
  simp -implicitDefEqProofs only [mkR_nil,mkR_cons,op,ef,cl,sq,reduceIte,q4,q5,j2,j3,j4,j5,j6,j7,j8,S1,h3.hp,hlen,g8,g11,hlt]
  refine ⟨tL',K.map f,L',G',h3,by rw [hf];exact stF_up hs _ _,hl2,?_,by simp,f2.trans f3 ho,fun c hc=>(g2 c hc).imp id fun h=>⟨h.1,by have:=f3.1;omega⟩⟩
  have hlast:∀ k,(ldAb K L').last k=((ldAb K L).com n now).last k:=fun k=>by
   show (mlook L' k).getD 0=(((ldAb K L).com n now).l k).getD 0
   rw [hk2]
  refine ab_ext (fun m=>?_) hk2
  show mlook (kdL (K.map f)) m=((ldAb K L).v m).map _
  have ev:(ldAb K L).v m=(K.find? fun x=>decide (x.nm=m)).map Kd.vd:=look_find hs m
  rw [look_map hs f (fun x=>by rw [hf];exact stF_nm _ _ _),ev]
  cases hfi:K.find? (fun x=>decide (x.nm=m)) with
  | none=>rfl
  | some x =>
   have hxm:x.nm=m:=by simpa using List.find?_some hfi
   rw [hfi] at ev
   have hSm:=hS m x.vd ev
   have e1:x.vd.stamp=x.stamp:=rfl
   have e2:m.1=x.key:=by rw [← hxm];rfl
   have e3:m.2=x.id:=by rw [← hxm];rfl
   rw [e1,e2,e3] at hSm
   have hl4:=hlast x.key
   rw [last_com] at hl4
   simp -implicitDefEqProofs only [Option.map_some,Option.some.injEq,e1,e2,e3]
   rw [hf]
   unfold stF
   rw [hl4]
   by_cases hst:x.stamp=-1
   ·by_cases hc:(ldAb K L).has (x.key,n)=true∧(ldAb K L).last x.key<n
    ·rw [if_pos hc]
     by_cases hlt5:x.id<n
     ·rw [if_pos ⟨hst,hlt5⟩,if_pos ⟨hst,hc.1,hc.2,hlt5⟩];rfl
     ·rw [if_neg fun h=>hlt5 h.2,if_neg fun h=>hlt5 h.2.2.2]
    ·rw [if_neg hc,if_neg fun h=>hSm.1 hst h.2,if_neg fun h=>hc ⟨h.2.1,h.2.2.1⟩]
   ·rw [if_neg fun h=>hst h.1,if_neg fun h=>hst h.1]
 obtain ⟨x,hx⟩:=getP hlt
 have hxm:=mapTo_get (f:=f) hx
 have hlm:(mapTo f K j).length=K.length:=mapTo_len
 obtain ⟨c,hc,ia,_⟩:=mut_n (enc:=eKd) (n:=5) (fun _=>rfl) (by decide) h3.mK hxm
 have wsj:=wrap_succ (show j<9223372036854775807 by omega)
 have r4:ldcB 1 (j*5+4) (some (.cells (msC eKd (mapTo f K j))))=some [.int .i64 x.stamp]:=msC_get (enc:=eKd) (n:=5) (fun _=>rfl) hxm 4 1 (by decide)
 have r1:ldcB 1 (j*5+0+1) (some (.cells (msC eKd (mapTo f K j))))=some [.int .u64 x.id]:=msC_get (enc:=eKd) (n:=5) (fun _=>rfl) hxm 1 1 (by decide)
 have r0:ldcB 1 (j*5+0+0) (some (.cells (msC eKd (mapTo f K j))))=some [.str x.key]:=msC_get (enc:=eKd) (n:=5) (fun _=>rfl) hxm 0 1 (by decide)
 have same:f x=x→RC H3 p tK tL' (mapTo f K (j+1)) L' G':=fun e=>by rw [mapTo_same hx e];exact h3
 by_cases hst:x.stamp=-1
 rotate_left
 ·have hb:(x.stamp==-1)=false:=by simp [hst]
  simp -implicitDefEqProofs only [mkR_nil,mkR_cons,op,ef,cl,sq,reduceIte,q4,q5,j2,j3,j4,j5,j6,j7,j8,S1,h3.hp,hlen,g8,g11,hlt,natOf_nat,ia,hc,r4,hst,hb,wsj]
  exact ⟨j+1,by omega,.i ⟨same (by rw [hf];unfold stF;rw [if_neg fun h=>hst h.1]),f3⟩,rfl,hlt⟩
 have hb:(x.stamp==-1)=true:=by simp [hst]
 simp -implicitDefEqProofs only [mkR_nil,mkR_cons,op,ef,cl,sq,reduceIte,q4,q5,j2,j3,j4,j5,j6,j7,j8,S1,h3.hp,hlen,g8,g11,hlt,natOf_nat,ia,hc,r4,r1,r0,hst]
 refine callB_of _ _ _ _ _ _ _ _ (rlast56 h3 (by omega) x.key) ?_
 rintro u H4 ⟨hu,rfl⟩
 cases hu
 have hlq:(ldAb (mapTo f K j) L').last x.key=(ldAb K L').last x.key:=rfl
 rw [hlq]
 by_cases hl5:x.id<(ldAb K L').last x.key
 ·have hfx:f x={ x with stamp:=now }:=by rw [hf];unfold stF;rw [if_pos ⟨hst,hl5⟩]
  have hset:=msC_set (enc:=eKd) (n:=5) (y:=f x) (fun _=>rfl) hxm H4 c [.int .i64 now] 4 (by simp) (by rw [hfx];rfl)
  have htb:=tb_of h3.mK hxm ia (by decide)
  obtain ⟨rc,fr⟩:=h3.wrK (K':=(mapTo f K j).set j (f x)) htb (by simp) (by rw [mapTo_set hx];exact fko (j+1))
  simp -implicitDefEqProofs only [mkR_nil,mkR_cons,op,ef,cl,sq,reduceIte,q4,q5,j2,j3,j4,j5,j6,j7,j8,S1,hl5,h3.hp,g8,g11,natOf_nat,ia,hc,r1,r0,hset,wsj]
  rw [mapTo_set hx] at rc fr ⊢
  exact ⟨j+1,by omega,.i ⟨rc,f3.trans fr fun _ h=>.inl h⟩,rfl,hlt⟩
 ·simp -implicitDefEqProofs only [mkR_nil,mkR_cons,op,ef,cl,sq,reduceIte,q4,q5,j2,j3,j4,j5,j6,j7,j8,S1,hl5,h3.hp,g8,g11,hc,r1,r0,wsj]
  exact ⟨j+1,by omega,.i ⟨same (by rw [hf];unfold stF;rw [if_neg fun h=>hl5 h.2]),f3⟩,rfl,hlt⟩
theorem has_mem {K:List Kd} {L:List Nm} (m:Nm):memN (K.map Kd.nm) m=(ldAb K L).has m:=by
 rw [Bool.eq_iff_iff,memN_iff,← kdL_key,mem_keys];rfl
theorem cutK_up {K:List Kd} (hs:keptUp K) (i:Nat):keptUp (K.take i++K.drop (i+1)):=by
 have:(K.take i++K.drop (i+1)).Sublist K:=by
  conv=>rhs;rw [← List.take_append_drop i K]
  refine List.Sublist.append (List.Sublist.refl _) ?_
  rw [← List.drop_drop]
  exact List.drop_sublist _ _
 exact hs.sublist this
theorem cutK_ab {K:List Kd} {L:List Nm} (hs:keptUp K) {i:Nat} {x:Kd} (hx:K[i]?=some x):ldAb (K.take i++K.drop (i+1)) L=(ldAb K L).cut x.nm:=by
 refine ab_ext (fun m=>?_) fun _=>rfl
 have e0:K=K.take i++x :: K.drop (i+1):=by rw [← drop_at hx,List.take_append_drop]
 have hno:x.nm∉(kdL (K.take i)++kdL (K.drop (i+1))).map (·.1):=fun hh=>by
  have h2:=hs.nd
  rw [e0,List.map_append,List.map_cons,List.nodup_append,List.nodup_cons] at h2
  rw [List.map_append,kdL_key,kdL_key] at hh
  rcases List.mem_append.1 hh with hh | hh
  ·exact h2.2.2 _ hh x.nm (by simp) rfl
  ·exact h2.2.1.1 hh
 show mlook (kdL (K.take i++K.drop (i+1))) m=if m=x.nm then none else mlook (kdL K) m
 rw [kdL_app,mlook_cut _ _ (x.nm,x.vd) hno,← kdL_cons,← kdL_app,← e0]
set_option maxHeartbeats 1000000 in
theorem rdrop53 {H:Heap} {p:Nat} {tK tL:T} {K:List Kd} {L:List Nm} {G:Nat→Prop} (h:RC H p tK tL K L G) (hs:keptUp K) (hK:K.length≤8000000) (hL:L.length≤8000000) (k:ByteArray) (n:Nat) :
  W env (.call 77 [.ptr p 0,.str k,.int .u64 n]) H (fun o H' =>
   ((ldAb K L).v (k,n)=none∧o=.val (.int .i64 110)∧Ext H H')∨((ldAb K L).has (k,n)=true∧¬ n<(ldAb K L).last k∧o=.val (.int .i64 1)∧Ext H H') ∨
   ((ldAb K L).has (k,n)=true∧n<(ldAb K L).last k∧o=.val (.int .i64 0)∧∃ tK' K' G',RC H' p tK' tL K' L G'∧keptUp K'∧ldAb K' L=(ldAb K L).cut (k,n)∧K'.length≤K.length∧Frm G H H'∧Gro G G' H H')):=by
 refine W.fnI rfl rfl rfl ?_
 simp -implicitDefEqProofs only [ir77,op,ef,cl,sq,reduceIte,q4,q5,j2,j3,j4,j5,j6,j7,j8,S1]
 refine callB_of _ _ _ _ _ _ _ _ (rfind34 h hs hK (k,n)) ?_
 rintro u H1 ⟨hx1,hu⟩
 cases hu
 have hx1:Ext H H1:=hx1
 have h1:=h.ext hx1
 have hmem:=has_mem (K:=K) (L:=L) (k,n)
 cases hh:memN (K.map Kd.nm) (k,n)
 ·rw [hh] at hmem
  have hv:(ldAb K L).v (k,n)=none:=by
   have:=hmem.symm
   simpa [Ab.has] using this
  simp -implicitDefEqProofs only [op,ef,cl,sq,reduceIte,q4,q5,j2,j3,j4,j5,j6,j7,j8,S1]
  exact .inl ⟨hv,hx1⟩
 obtain ⟨x,hx,hxm⟩:=(fiK_mem hs (k,n)).1 hh
 obtain ⟨i,hi⟩:∃ i,i=fiK K (k,n):=⟨_,rfl⟩
 rw [← hi] at hx ⊢
 rw [hh] at hmem
 have hlt:=(List.getElem?_eq_some_iff.1 hx).1
 simp -implicitDefEqProofs only [op,ef,cl,sq,reduceIte,q4,q5,j2,j3,j4,j5,j6,j7,j8,S1]
 refine callB_of _ _ _ _ _ _ _ _ (rlast56 h1 hL k) ?_
 rintro u H2 ⟨hu,rfl⟩
 cases hu
 by_cases hlk:n<(ldAb K L).last k
 rotate_left
 ·have hge:(ldAb K L).last k≤n:=by omega
  simp -implicitDefEqProofs only [op,ef,cl,sq,reduceIte,q4,q5,j2,j3,j4,j5,j6,j7,j8,S1,hge]
  exact .inr (.inl ⟨hmem.symm,hlk,hx1⟩)
 have hge:¬ (ldAb K L).last k≤n:=by omega
 obtain ⟨t1,H3,ta,_,I⟩:=ins_mk (enc:=eKd) (n:=5) (bytes:=72) (fun _=>rfl) h1.mK (i:=i) (by omega) (fun j hj=>roomT (by omega))
 obtain ⟨tz,hz,ez⟩:=sll_hi (enc:=eKd) (n:=5) (fun _=>rfl) h1.mK (i:=i+1) (by omega)
 have lt1:(K.take i).length=i:=by rw [List.length_take];omega
 obtain ⟨t2,H4,a2,m2,x2,b2⟩:=app_own (enc:=eKd) (n:=5) (bytes:=72) (fun _=>rfl) I.m1 I.x1 I.b1 (K.drop (i+1)) (roomT (by rw [lt1,List.length_drop];omega))
 have h3:=h1.ext I.x1
 have e3:=h3.hp
 have ez3:=ez H3 h3.mK
 obtain ⟨hp4,frm4,G2,rc4,gro4⟩:=h.setK (ext_frm (hx1.trans x2)) m2 (fun c hc=>by have:=b2 c hc;have:=hx1.len;omega) (fun y hy=>by
  rcases List.mem_append.1 hy with hy | hy
  ·exact h.ko y (List.mem_of_mem_take hy)
  ·exact h.ko y (List.mem_of_mem_drop hy))
 have l4:=glt hp4
 have fgt0:fgt (.sl .nil [])=.sl .nil []:=rfl
 have wsi:=wrap_succ (show i<9223372036854775807 by omega)
 simp -implicitDefEqProofs only [op,ef,cl,sq,reduceIte,q4,q5,j2,j3,j4,j5,j6,j7,j8,S1,hge,h1.hp,↓I.lo,I.ea,fgt0,I.a1,wsi,fgt_mut I.m1,e3,↓hz,ez3,a2,hp4,l4,cells_mut m2]
 refine .inr (.inr ⟨hmem.symm,hlk,t2,_,G2,rc4,cutK_up hs i,by rw [cutK_ab hs hx,hxm],?_,frm4,gro4⟩)
 simp -implicitDefEqProofs only [List.length_append,List.length_take,List.length_drop];omega
end Go.Proofs.YtmgldhlcapjdkaaGreat.St
end

section

end

section
namespace Go.Proofs.YtmgldhlcapjdkaaGreat.St
open Go.Rmp Go.Proofs.YtmgldhlcapjdkaaGreat.Ir
set_option maxRecDepth 10000
structure RfA (a:Ab) (K:List Kd) (L:List Nm):Prop where
 up:keptUp K
 lu:lastsUp L
 ab:ldAb K L=a
 w:AbW a
section
variable {a:Ab} {K:List Kd} {L:List Nm}
theorem RfA.names (h:RfA a K L):Names a (K.map Kd.nm):=⟨List.pairwise_map.2 h.up,fun m=>by
 rw [← memN_iff,has_mem (L:=L),h.ab]⟩
theorem RfA.len (h:RfA a K L) {H:Heap} {b:Bk} {F:Nat→Prop} {m:Nat} (hs:AtS H b a F m):K.length≤m:=by
 obtain ⟨l,hn,hl⟩:=hs.names
 have:=hn.uniq h.names
 subst this
 simpa using hl
theorem RfA.llen (h:RfA a K L):L.length≤K.length:=by
 have hnd:L.Nodup:=(List.pairwise_map.1 h.lu.nd).imp fun {a b} h e=>h (by rw [e])
 have:=nd_le (l:=L) (l':=K.map Kd.nm) hnd fun e he=>by
  have h1:=mlook_of h.lu.nd he
  have h2:a.l e.1=some e.2:=by rw [← h.ab];exact h1
  rw [← memN_iff,has_mem (L:=L),h.ab]
  exact h.w.L _ _ h2
 simpa using this
end
def fstep (h:Int) (c:UInt8):Int:=IntKind.u64.wrap (IntKind.u64.wrap ((BitVec.ofInt IntKind.u64.bits h ^^^ BitVec.ofInt IntKind.u64.bits (IntKind.u64.wrap c.toNat)).toNat:Nat)*1099511628211)
def hashL (h:Int) (l:List UInt8):Int:=l.foldl fstep h
def hashT (s:ByteArray):Int:=hashL 14695981039346656037 s.data.toList
theorem u64_in (x:Int):0≤IntKind.u64.wrap x∧IntKind.u64.wrap x<18446744073709551616:=by
 unfold IntKind.wrap
 simp -implicitDefEqProofs only [IntKind.signed,IntKind.bits]
 simp
 omega
theorem hashL_snoc (h:Int) (l:List UInt8) (c:UInt8):hashL h (l++[c])=fstep (hashL h l) c:=by simp [hashL]
theorem hashT_in (s:ByteArray):0≤hashT s∧hashT s<18446744073709551616:=by
 unfold hashT hashL
 generalize s.data.toList=l
 have key:∀ (l:List UInt8) (h:Int),0≤h∧h<18446744073709551616→0≤l.foldl fstep h∧l.foldl fstep h<18446744073709551616:=by
  intro l
  induction l with
  | nil=>exact fun h hh=>hh
  | cons c l ih=>exact fun h _=>ih _ (u64_in _)
 exact key l _ (by decide)
theorem takeB {s:ByteArray} {i:Nat} {c:UInt8} (h:s.data[i]?=some c):s.data.toList.take (i+1)=s.data.toList.take i++[c]:=by
 rw [List.take_add_one,Array.getElem?_toList,h];rfl
theorem feed154 (h:Int) (s:ByteArray) (H:Heap) (hs:s.size<9223372036854775807):W env (.call 154 [.int .u64 h,.str s]) H (Ret (.int .u64 (hashL h s.data.toList)) H):=by
 refine W.fnI rfl rfl rfl ?_
 simp -implicitDefEqProofs only [ir154,op,ef,cl,sq,reduceIte,q4,q5,j2,j3,j4,j5,j6,j7,j8,S1]
 refine W.loopI (fun (i:Nat) R H'=>H'=H∧R 0=.int .u64 (hashL h (s.data.toList.take i))∧R 1=.str s∧(R 7=.int .i64 s.size)∧R 8=.int .i64 i∧i≤s.size) (fun i=>s.size-i) 0 ⟨rfl,rfl,rfl,by first | rfl | trivial,rfl,Nat.zero_le _⟩ ?_
 rintro i R _ ⟨rfl,h0,h1,h7,h8,hi⟩
 by_cases hlt:i<s.size
 ·obtain ⟨c,hc⟩:∃ c,s.data[i]?=some c:=⟨s.data[i],Array.getElem?_eq_getElem hlt⟩
  have ws:=wrap_succ (show i<9223372036854775807 by omega)
  simp -implicitDefEqProofs only [op,ef,cl,sq,reduceIte,q4,q5,j2,j3,j4,j5,j6,j7,j8,S1,h0,h1,h7,h8,hlt,natOf_nat,hc,ws]
  refine ⟨i+1,by omega,?_,rfl,by omega⟩
  rw [takeB hc,hashL_snoc];rfl
 ·have e:s.data.toList.take i=s.data.toList:=List.take_of_length_le (by simp;exact Nat.le_of_not_lt hlt)
  simp -implicitDefEqProofs only [op,ef,cl,sq,reduceIte,q4,q5,j2,j3,j4,j5,j6,j7,j8,S1,h0,h1,h7,h8,hlt,e]
theorem feed156 (h:Int) (s:ByteArray) (H:Heap) (hs:s.size<9223372036854775807):W env (.call 156 [.int .u64 h,.str s]) H (Ret (.int .u64 (hashL h s.data.toList)) H):=by
 refine W.fnI rfl rfl rfl ?_
 simp -implicitDefEqProofs only [ir156,op,ef,cl,sq,reduceIte,q4,q5,j2,j3,j4,j5,j6,j7,j8,S1]
 refine W.loopI (fun (i:Nat) R H'=>H'=H∧R 0=.int .u64 (hashL h (s.data.toList.take i))∧R 1=.str s∧(True)∧R 5=.int .i64 i∧i≤s.size) (fun i=>s.size-i) 0 ⟨rfl,rfl,rfl,by first | rfl | trivial,rfl,Nat.zero_le _⟩ ?_
 rintro i R _ ⟨rfl,h0,h1,h7,h8,hi⟩
 by_cases hlt:i<s.size
 ·obtain ⟨c,hc⟩:∃ c,s.data[i]?=some c:=⟨s.data[i],Array.getElem?_eq_getElem hlt⟩
  have ws:=wrap_succ (show i<9223372036854775807 by omega)
  simp -implicitDefEqProofs only [op,ef,cl,sq,reduceIte,q4,q5,j2,j3,j4,j5,j6,j7,j8,S1,h0,h1,h7,h8,hlt,natOf_nat,hc,ws]
  refine ⟨i+1,by omega,?_,rfl,by omega⟩
  rw [takeB hc,hashL_snoc];rfl
 ·have e:s.data.toList.take i=s.data.toList:=List.take_of_length_le (by simp;exact Nat.le_of_not_lt hlt)
  simp -implicitDefEqProofs only [op,ef,cl,sq,reduceIte,q4,q5,j2,j3,j4,j5,j6,j7,j8,S1,h0,h1,h7,h8,hlt,e]
theorem begin155 (H:Heap):W env (.call 155 []) H (Ret (.int .u64 14695981039346656037) H):=by
 refine W.fnI rfl rfl rfl ?_
 simp -implicitDefEqProofs only [ir155,op,ef,cl,sq,reduceIte,q4,q5,j2,j3,j4,j5,j6,j7,j8,S1]
theorem hash112 (s:ByteArray) (H:Heap) (hs:s.size<9223372036854775807):W env (.call 112 [.str s]) H (Ret (.int .u64 (hashT s)) H):=by
 refine W.fnI rfl rfl rfl ?_
 simp -implicitDefEqProofs only [ir112,op,ef,cl,sq,reduceIte,q4,q5,j2,j3,j4,j5,j6,j7,j8,S1]
 refine callB_of _ _ _ _ _ _ _ _ (begin155 _) ?_
 rintro u H1 ⟨hu,rfl⟩
 cases hu
 simp -implicitDefEqProofs only [op,ef,cl,sq,reduceIte,q4,q5,j2,j3,j4,j5,j6,j7,j8,S1]
 refine callB_of _ _ _ _ _ _ _ _ (feed154 _ s _ hs) ?_
 rintro u H1 ⟨hu,rfl⟩
 cases hu
 simp -implicitDefEqProofs only [op,ef,cl,sq,reduceIte,q4,q5,j2,j3,j4,j5,j6,j7,j8,S1,hashT]
theorem hash113 (s:ByteArray) (H:Heap) (hs:s.size<9223372036854775807):W env (.call 113 [.str s]) H (Ret (.int .u64 (hashT s)) H):=by
 refine W.fnI rfl rfl rfl ?_
 simp -implicitDefEqProofs only [ir113,op,ef,cl,sq,reduceIte,q4,q5,j2,j3,j4,j5,j6,j7,j8,S1]
 refine callB_of _ _ _ _ _ _ _ _ (feed156 _ s _ hs) ?_
 rintro u H1 ⟨hu,rfl⟩
 cases hu
 simp -implicitDefEqProofs only [op,ef,cl,sq,reduceIte,q4,q5,j2,j3,j4,j5,j6,j7,j8,S1,hashT]
def ofN (s:ByteArray) (p:Nat):Nat:=(hashT s).toNat % p
theorem ofN_lt (s:ByteArray) {p:Nat} (hp:0<p):ofN s p<p:=Nat.mod_lt _ hp
theorem of_val (s:ByteArray) {p:Nat} (h1:1≤p) (h2:p≤64):IntKind.i64.wrap ((hashT s).tmod (IntKind.u64.wrap (p:Int)))=(ofN s p:Int):=by
 obtain ⟨h3,h4⟩:=hashT_in s
 rw [wrapu64 (n:=(p:Int)) (by omega)]
 have e:hashT s=((hashT s).toNat:Int):=(Int.toNat_of_nonneg h3).symm
 have e2:(hashT s).tmod (p:Int)=(ofN s p:Int):=by
  rw [e];exact (Int.ofNat_tmod _ _).symm
 have:=ofN_lt s (p:=p) (by omega)
 rw [e2,wrap64 (by omega)]
theorem may69 (p:Int) (H:Heap):W env (.call 69 [.int .i64 p]) H (Ret (.bool (decide (1≤p)&&decide (p≤64))) H):=by
 refine W.fnI rfl rfl rfl ?_
 by_cases h:(1:Int)≤p
 ·simp -implicitDefEqProofs only [ir69,op,ef,cl,sq,reduceIte,q4,q5,j2,j3,j4,j5,j6,j7,j8,S1,h]
 ·simp -implicitDefEqProofs only [ir69,op,ef,cl,sq,reduceIte,q4,q5,j2,j3,j4,j5,j6,j7,j8,S1,h,Bool.false_and]
theorem of70 (s:ByteArray) (p:Nat) (h1:1≤p) (h2:p≤64) (H:Heap) (hs:s.size<9223372036854775807):W env (.call 70 [.str s,.int .i64 p]) H (Ret (.int .i64 (ofN s p:Nat)) H):=by
 refine W.fnI rfl rfl rfl ?_
 have nz:¬ IntKind.u64.wrap (p:Int)=0:=by rw [wrapu64 (by omega)];omega
 simp -implicitDefEqProofs only [ir70,op,ef,cl,sq,reduceIte,q4,q5,j2,j3,j4,j5,j6,j7,j8,S1]
 refine callB_of _ _ _ _ _ _ _ _ (hash112 s _ hs) ?_
 rintro u H1 ⟨hu,rfl⟩
 cases hu
 simp -implicitDefEqProofs only [op,ef,cl,sq,reduceIte,q4,q5,j2,j3,j4,j5,j6,j7,j8,S1,nz,of_val s h1 h2]
def okP (p:Int):Bool:=decide (1≤p)&&decide (p≤64)
theorem okP_t {p:Int} (h:okP p=true):∃ n:Nat,p=n∧1≤n∧n≤64:=by
 simp [okP] at h
 exact ⟨p.toNat,by omega,by omega,by omega⟩
def ofV (s:ByteArray) (p:Int):T:=.tup [.int .i64 (if okP p then (ofN s p.toNat:Nat) else 0:Int),.int .i64 (if okP p then 0 else 1)]
theorem of25 (s:ByteArray) (p:Int) (H:Heap) (hs:s.size<9223372036854775807):W env (.call 25 [.str s,.int .i64 p]) H (Ret (ofV s p) H):=by
 refine W.fnI rfl rfl rfl ?_
 simp -implicitDefEqProofs only [ir25,op,ef,cl,sq,reduceIte,q4,q5,j2,j3,j4,j5,j6,j7,j8,S1]
 refine callB_of _ _ _ _ _ _ _ _ (may69 p _) ?_
 rintro u H1 ⟨hu,rfl⟩
 have hu:u=.bool (okP p):=by cases hu;rfl
 subst hu
 cases h:okP p
 ·simp -implicitDefEqProofs only [op,ef,cl,sq,reduceIte,q4,q5,j2,j3,j4,j5,j6,j7,j8,S1,ofV,h,Bool.false_eq_true]
 ·obtain ⟨n,rfl,h1,h2⟩:=okP_t h
  simp -implicitDefEqProofs only [op,ef,cl,sq,reduceIte,q4,q5,j2,j3,j4,j5,j6,j7,j8,S1]
  refine callB_of _ _ _ _ _ _ _ _ (of70 s n h1 h2 _ hs) ?_
  rintro u H1 ⟨hu,rfl⟩
  cases hu
  simp -implicitDefEqProofs only [op,ef,cl,sq,reduceIte,q4,q5,j2,j3,j4,j5,j6,j7,j8,S1,ofV,h,Int.toNat_natCast]
theorem of72 (s:ByteArray) (p:Int) (H:Heap) (hs:s.size<9223372036854775807):W env (.call 72 [.str s,.int .i64 p]) H (Ret (ofV s p) H):=by
 refine W.fnI rfl rfl rfl ?_
 cases h:okP p
 ·by_cases h1:p<1
  ·simp -implicitDefEqProofs only [ir72,op,ef,cl,sq,reduceIte,q4,q5,j2,j3,j4,j5,j6,j7,j8,S1,ofV,h,h1,Bool.false_eq_true]
  ·have h2:64<p:=by simp [okP] at h;omega
   simp -implicitDefEqProofs only [ir72,op,ef,cl,sq,reduceIte,q4,q5,j2,j3,j4,j5,j6,j7,j8,S1,ofV,h,h1,h2,Bool.false_eq_true]
 ·obtain ⟨n,rfl,h1,h2⟩:=okP_t h
  have h3:¬ ((n:Int)<1):=by omega
  have h4:¬ ((64:Int)<(n:Int)):=by omega
  have h5:¬ n<1:=by omega
  have h6:¬ 64<n:=by omega
  have nz:¬ IntKind.u64.wrap (n:Int)=0:=by rw [wrapu64 (by omega)];omega
  simp -implicitDefEqProofs only [ir72,op,ef,cl,sq,reduceIte,q4,q5,j2,j3,j4,j5,j6,j7,j8,S1,h3,h4,h5,h6]
  refine callB_of _ _ _ _ _ _ _ _ (hash113 s _ hs) ?_
  rintro u H1 ⟨hu,rfl⟩
  cases hu
  simp -implicitDefEqProofs only [op,ef,cl,sq,reduceIte,q4,q5,j2,j3,j4,j5,j6,j7,j8,S1,ofV,h,nz,of_val s h1 h2,Int.toNat_natCast]
def eB (n:Nat):List T:=[.int .u8 n]
theorem eB_len (x:Nat):(eB x).length=1:=rfl
theorem msB_get {xs:List Nat} {i x:Nat} (hx:xs[i]?=some x):ldcB 1 (i*1) (some (.cells (msC eB xs)))=some [.int .u8 x]:=msC_get eB_len hx 0 1 (by decide)
theorem msB_set {xs:List Nat} {i x:Nat} (hx:xs[i]?=some x) (H:Heap) (b y:Nat):stcB H b [.int .u8 y] (i*1) (some (.cells (msC eB xs)))=some (H.set b (.cells (msC eB (xs.set i y)))):=msC_set (y:=y) eB_len hx H b [.int .u8 y] 0 (by simp) rfl
theorem iadm1 {i n c:Nat} (h:i<n):iadT 1 i (.msl c 0 n 1)=some (.ptr c (i*1)):=by rw [iad_m];simp [h]
theorem fdn (n m:Nat):(n:Int).fdiv (2 ^ m)=((n / 2 ^ m:Nat):Int):=by
 rw [Int.fdiv_eq_ediv_of_nonneg _ (Int.le_of_lt (Int.pow_pos (by decide)))]
 simp
theorem and_n (w a b:Nat) (ha:a<2 ^ w) (hb:b<2 ^ w):(BitVec.ofInt w (a:Int) &&& BitVec.ofInt w (b:Int)).toNat=a &&& b:=by
 rw [BitVec.toNat_and,BitVec.ofInt_natCast,BitVec.ofInt_natCast,BitVec.toNat_ofNat,BitVec.toNat_ofNat,Nat.mod_eq_of_lt ha,Nat.mod_eq_of_lt hb]
theorem or_n (w a b:Nat) (ha:a<2 ^ w) (hb:b<2 ^ w):(BitVec.ofInt w (a:Int) ||| BitVec.ofInt w (b:Int)).toNat=a ||| b:=by
 rw [BitVec.toNat_or,BitVec.ofInt_natCast,BitVec.ofInt_natCast,BitVec.toNat_ofNat,BitVec.toNat_ofNat,Nat.mod_eq_of_lt ha,Nat.mod_eq_of_lt hb]
theorem wrap8m (n:Nat):IntKind.u8.wrap (n:Int)=((n % 256:Nat):Int):=by
 unfold IntKind.wrap
 simp -implicitDefEqProofs only [IntKind.signed,IntKind.bits]
 simp
def hN (t:ByteArray):Nat:=(hashT t).toNat
theorem hN_eq (t:ByteArray):hashT t=(hN t:Int):=(Int.toNat_of_nonneg (hashT_in t).1).symm
theorem hN_lt (t:ByteArray):hN t<18446744073709551616:=by have:=(hashT_in t).2;have:=hN_eq t;omega
def plcAt (t:ByteArray) (i:Nat):Nat:=hN t / 4294967296+i*(hN t % 4294967296)
def plc (t:ByteArray) (b i:Nat):Nat:=plcAt t i % b
def plcs (t:ByteArray) (b h:Nat):List Nat:=(List.range h).map (plc t b)
theorem plcs_lt {t:ByteArray} {b h p:Nat} (hb:1≤b) (hp:p∈plcs t b h):p<b:=by
 obtain ⟨i,_,rfl⟩:=List.mem_map.1 hp
 exact Nat.mod_lt _ hb
theorem plcs_len (t:ByteArray) (b h:Nat):(plcs t b h).length=h:=by simp [plcs]
theorem plcs_snoc (t:ByteArray) (b i:Nat):plcs t b (i+1)=plcs t b i++[plc t b i]:=by simp [plcs,List.range_succ]
theorem hi_val (t:ByteArray):(hashT t).fdiv (2 ^ (min (32:Int).toNat IntKind.u64.bits))=((hN t / 4294967296:Nat):Int):=by
 rw [hN_eq];exact fdn _ 32
theorem lo_val (t:ByteArray):IntKind.u64.wrap ((BitVec.ofInt IntKind.u64.bits (hashT t) &&& BitVec.ofInt IntKind.u64.bits 4294967295).toNat:Nat)=((hN t % 4294967296:Nat):Int):=by
 have h:=hN_lt t
 have e:=and_n 64 (hN t) 4294967295 h (by decide)
 have e2:hN t &&& 4294967295=hN t % 4294967296:=Nat.and_two_pow_sub_one_eq_mod (hN t) 32
 rw [e2] at e
 rw [hN_eq]
 have e3:(BitVec.ofInt IntKind.u64.bits (hN t:Int) &&& BitVec.ofInt IntKind.u64.bits 4294967295).toNat=hN t % 4294967296:=e
 rw [e3,wrapu64 (by omega)]
theorem plcAt_lt (t:ByteArray) {i:Nat} (hi:i≤16):plcAt t i<73014444032:=by
 have h:=hN_lt t
 unfold plcAt
 have h2:i*(hN t % 4294967296)≤16*4294967295:=Nat.mul_le_mul hi (by omega)
 omega
theorem plc_val (t:ByteArray) {i b:Nat} (hi:i≤16) (h1:1≤b) (h2:b≤65536):IntKind.i64.wrap ((plcAt t i:Int).tmod (IntKind.u64.wrap (b:Int)))=(plc t b i:Int):=by
 rw [wrapu64 (n:=(b:Int)) (by omega)]
 have e:(plcAt t i:Int).tmod (b:Int)=(plc t b i:Int):=(Int.ofNat_tmod _ _).symm
 have:=Nat.mod_lt (plcAt t i) h1
 have e3:plc t b i=plcAt t i % b:=rfl
 rw [e,wrap64 (by omega)]
def shOk (b h:Int):Bool:=decide (1≤b)&&decide (b≤65536)&&decide (1≤h)&&decide (h≤16)
theorem shOk_t {b h:Int} (k:shOk b h=true):∃ m n:Nat,b=m∧h=n∧1≤m∧m≤65536∧1≤n∧n≤16:=by
 simp [shOk] at k
 exact ⟨b.toNat,h.toNat,by omega,by omega,by omega,by omega,by omega,by omega⟩
theorem may96 (b h:Int) (H:Heap):W env (.call 96 [.agg [.int .i64 b,.int .i64 h]]) H (fun o H'=>o=.val (.bool (shOk b h))∧Ext H H'):=by
 refine W.fnI rfl rfl rfl ?_
 unfold shOk
 by_cases h1:(1:Int)≤b
 rotate_left
 ·simp -implicitDefEqProofs only [ir96,op,ef,cl,sq,reduceIte,q4,q5,j2,j3,j4,j5,j6,j7,j8,S1,S2,h1,Bool.false_and]
  exact Ext.rfl'.app _
 by_cases h2:b≤65536
 rotate_left
 ·simp -implicitDefEqProofs only [ir96,op,ef,cl,sq,reduceIte,q4,q5,j2,j3,j4,j5,j6,j7,j8,S1,S2,h1,h2,Bool.false_and]
  exact Ext.rfl'.app _
 by_cases h3:(1:Int)≤h
 ·simp -implicitDefEqProofs only [ir96,op,ef,cl,sq,reduceIte,q4,q5,j2,j3,j4,j5,j6,j7,j8,S1,S2,h1,h2,h3]
  exact Ext.rfl'.app _
 ·simp -implicitDefEqProofs only [ir96,op,ef,cl,sq,reduceIte,q4,q5,j2,j3,j4,j5,j6,j7,j8,S1,S2,h1,h2,h3,Bool.false_and]
  exact Ext.rfl'.app _
theorem sz_val {b:Nat} (h:b<1099511627776):IntKind.i64.wrap ((IntKind.i64.wrap ((b:Int)+7)).tdiv 8)=(((b+7) / 8:Nat):Int):=by
 rw [wrap64 (n:=(b:Int)+7) (by omega)]
 have e:((b:Int)+7).tdiv 8=(((b+7) / 8:Nat):Int):=by
  rw [Int.tdiv_eq_ediv_of_nonneg (by omega)];omega
 rw [e,wrap64 (by omega)]
theorem size97 (b:Nat) (h:Int) (hb:b<1099511627776) (H:Heap):W env (.call 97 [.agg [.int .i64 b,.int .i64 h]]) H (fun o H'=>o=.val (.int .i64 ((b+7) / 8:Nat))∧Ext H H'):=by
 refine W.fnI rfl rfl rfl ?_
 have e:=sz_val hb
 simp -implicitDefEqProofs only [ir97,op,ef,cl,sq,reduceIte,q4,q5,j2,j3,j4,j5,j6,j7,j8,S1,S2,e]
 exact Ext.rfl'.app _
theorem places99 (t:ByteArray) (b h:Nat) (b1:1≤b) (b2:b≤65536) (h2:h≤16) (H:Heap) (ht:t.size<9223372036854775807):W env (.call 99 [.agg [.int .i64 b,.int .i64 h],.str t]) H (fun o H'=>Ext H H'∧∃ k,o=.val (.sl k ((plcs t b h).map eI))):=by
 refine W.fnI rfl rfl rfl ?_
 obtain ⟨H1,hH1⟩:∃ H1,H1=H++[B.cells [T.int .i64 (b:Int),T.int .i64 (h:Int)]]:=⟨_,rfl⟩
 have hx1:Ext H H1:=⟨_,hH1⟩
 have c1:H1[H.length]?=some (.cells [T.int .i64 (b:Int),T.int .i64 (h:Int)]):=by rw [hH1];exact g_tail rfl
 simp -implicitDefEqProofs only [ir99,op,ef,cl,sq,reduceIte,q4,q5,j2,j3,j4,j5,j6,j7,j8,S1]
 rw [← hH1]
 refine callB_of _ _ _ _ _ _ _ _ (hash112 t _ ht) ?_
 rintro u H1 ⟨hu,rfl⟩
 cases hu
 have hi:=hi_val t
 have lo:=lo_val t
 simp -implicitDefEqProofs only [op,ef,cl,sq,reduceIte,q4,q5,j2,j3,j4,j5,j6,j7,j8,S1,c1,hi,lo]
 refine W.loopV [(2,_),(7,_),(16,_)] (fun (i:Nat) R H'=>At H' (fun H'=>∃ k,R 8=.sl k ((plcs t b i).map eI)∧Ext H1 H'∧Apd H1.length H' k)∧R 6=.int .u64 (plcAt t i:Nat)∧R 17=.int .i64 i∧i≤h) (fun i=>h-i) 0 ⟨.i ⟨.nil,rfl,Ext.rfl',apd_nil _ _⟩,by show T.int .u64 _=_;simp [plcAt],rfl,Nat.zero_le _⟩ ?_
 rintro i R H2 ⟨⟨k,g8,hx2,hap⟩,g6,g17,hle⟩
 have c2:=hx2.get c1
 by_cases hlt:i<h
 rotate_left
 ·have hie:i=h:=by omega
  subst hie
  simp -implicitDefEqProofs only [mkR_nil,mkR_cons,op,ef,cl,sq,reduceIte,q4,q5,j2,j3,j4,j5,j6,j7,j8,S1,g8,g17,hlt]
  exact ⟨hx1.trans hx2,k,rfl⟩
 have ws:=wrap_succ (show i<9223372036854775807 by omega)
 have pv:=plc_val t (i:=i) (by omega) b1 b2
 have nz:¬ IntKind.u64.wrap (b:Int)=0:=by rw [wrapu64 (by omega)];omega
 have pl:=plcAt_lt t (i:=i+1) (by omega)
 have e2:plcAt t (i+1)=plcAt t i+hN t % 4294967296:=by unfold plcAt;rw [Nat.add_mul];omega
 have wsu:IntKind.u64.wrap ((plcAt t i:Int)+((hN t % 4294967296:Nat):Int))=((plcAt t (i+1):Nat):Int):=by
  rw [wrapu64 (by omega),e2];simp
 have hall:=all_map (enc:=eI) (n:=1) (fun _=>rfl) (plcs t b i)
 obtain ⟨k',H3,ha,hap',hst'⟩:=app_ok (bytes:=8) ((plcs t b i).map eI) [[T.int .i64 (plc t b i:Nat)]] hap hx2.len (by simp) (roomT (by rw [List.length_map,plcs_len];simp -implicitDefEqProofs only [List.length_cons,List.length_nil];omega))
 have c3:=hst'.cells hap c2 (by simp)
 simp -implicitDefEqProofs only [op,ef,cl,sq,reduceIte,q4,q5,j2,j3,j4,j5,j6,j7,j8,S1] at ha
 simp -implicitDefEqProofs only [mkR_nil,mkR_cons,op,ef,cl,sq,reduceIte,q4,q5,j2,j3,j4,j5,j6,j7,j8,S1,g8,g17,g6,hlt,c2,c3,nz,pv,hall,ha,ws,wsu]
 refine ⟨i+1,by omega,.i ⟨k',?_,hst'.ext H1 (Nat.le_refl _) hx2,hap'⟩,rfl,rfl,hlt⟩
 rw [plcs_snoc,List.map_append];rfl
def byteS (S:Nat→Bool) (j:Nat):Nat:=bitsN (fun i=>S (8*j+i)) 8
def bytS (S:Nat→Bool) (b:Nat):List Nat:=(List.range ((b+7) / 8)).map (byteS S)
def addP (S:Nat→Bool) (p:Nat):Nat→Bool:=fun q=>S q||decide (q=p)
def addPs (S:Nat→Bool) (l:List Nat):Nat→Bool:=fun q=>S q||l.contains q
theorem byteS_lt (S:Nat→Bool) (j:Nat):byteS S j<256:=bitsN_lt _ 8
theorem bytS_len (S:Nat→Bool) (b:Nat):(bytS S b).length=(b+7) / 8:=by simp [bytS]
theorem bytS_at (S:Nat→Bool) {b j:Nat} (h:j<(b+7) / 8):(bytS S b)[j]?=some (byteS S j):=by simp [bytS,h]
theorem bytS_lt {S:Nat→Bool} {b x:Nat} (h:x∈bytS S b):x<256:=by
 obtain ⟨j,_,rfl⟩:=List.mem_map.1 h;exact byteS_lt _ _
theorem bytS_zero (b:Nat):bytS (fun _=>false) b=List.replicate ((b+7) / 8) 0:=by
 refine List.ext_getElem (by simp [bytS]) fun i h1 h2=>?_
 simp [bytS,byteS,bitsN]
theorem bytS_set (S:Nat→Bool) (p b:Nat):(bytS S b).set (p / 8) (byteS S (p / 8) ||| 2 ^ (p % 8))=bytS (addP S p) b:=by
 refine List.ext_getElem (by simp [bytS]) fun i h1 h2=>?_
 rw [List.getElem_set]
 simp -implicitDefEqProofs only [bytS,List.getElem_map,List.getElem_range]
 split
 ·rename_i e;subst e
  unfold byteS
  rw [bitsN_or (Nat.mod_lt _ (by decide))]
  refine bitsN_ext fun j hj=>?_
  simp -implicitDefEqProofs only [addP]
  congr 1
  simp -implicitDefEqProofs only [decide_eq_decide];omega
 ·rename_i e
  refine bitsN_ext fun j hj=>?_
  have:¬ 8*i+j=p:=by omega
  simp -implicitDefEqProofs only [addP,this,decide_false,Bool.or_false]
theorem addPs_nil (S:Nat→Bool):addPs S []=S:=by funext q;simp [addPs]
theorem addPs_snoc (S:Nat→Bool) (l:List Nat) (p:Nat):addPs S (l++[p])=addP (addPs S l) p:=by
 funext q;simp [addPs,addP,Bool.or_assoc]
theorem or_val {x p:Nat} (hx:x<256):IntKind.u8.wrap ((BitVec.ofInt IntKind.u8.bits (x:Int) ||| BitVec.ofInt IntKind.u8.bits (IntKind.u8.wrap (1*2 ^ (min ((p:Int).tmod 8).toNat IntKind.u8.bits)))).toNat:Nat)=((x ||| 2 ^ (p % 8):Nat):Int):=by
 have e1:((p:Int).tmod 8).toNat=p % 8:=by
  rw [show ((p:Int).tmod 8)=((p % 8:Nat):Int) from (Int.ofNat_tmod p 8).symm];exact Int.toNat_natCast _
 have hm:p % 8<8:=Nat.mod_lt _ (by decide)
 have e2:min (p % 8) IntKind.u8.bits=p % 8:=Nat.min_eq_left (Nat.le_of_lt hm)
 have hp:2 ^ (p % 8)<256:=Nat.pow_lt_pow_right (by decide) hm
 have e3:(1*2 ^ (p % 8):Int)=((2 ^ (p % 8):Nat):Int):=by rw [Int.one_mul];simp
 rw [e1,e2,e3,wrap8 hp]
 have e4:=or_n 8 x (2 ^ (p % 8)) hx hp
 have e5:(BitVec.ofInt IntKind.u8.bits (x:Int) ||| BitVec.ofInt IntKind.u8.bits ((2 ^ (p % 8):Nat):Int)).toNat=x ||| 2 ^ (p % 8):=e4
 rw [e5,wrap8 (Nat.or_lt_two_pow (n:=8) hx hp)]
theorem bit_val {x p:Nat} (hx:x<256):(IntKind.u8.wrap ((BitVec.ofInt IntKind.u8.bits ((x:Int).fdiv (2 ^ (min ((p:Int).tmod 8).toNat IntKind.u8.bits))) &&& BitVec.ofInt IntKind.u8.bits 1).toNat:Nat))=(if x.testBit (p % 8) then 1 else 0:Int):=by
 have e1:((p:Int).tmod 8).toNat=p % 8:=by
  rw [show ((p:Int).tmod 8)=((p % 8:Nat):Int) from (Int.ofNat_tmod p 8).symm];exact Int.toNat_natCast _
 have hm:p % 8<8:=Nat.mod_lt _ (by decide)
 have e2:min (p % 8) IntKind.u8.bits=p % 8:=Nat.min_eq_left (Nat.le_of_lt hm)
 rw [e1,e2,fdn]
 have hd:x / 2 ^ (p % 8)<2 ^ 8:=Nat.lt_of_le_of_lt (Nat.div_le_self _ _) hx
 have e4:=and_n 8 (x / 2 ^ (p % 8)) 1 hd (by decide)
 have e5:(BitVec.ofInt IntKind.u8.bits ((x / 2 ^ (p % 8):Nat):Int) &&& BitVec.ofInt IntKind.u8.bits 1).toNat=x / 2 ^ (p % 8) &&& 1:=e4
 have e6:x / 2 ^ (p % 8) &&& 1=x / 2 ^ (p % 8) % 2:=Nat.and_one_is_mod _
 rw [e5,e6]
 have e7:x.testBit (p % 8)=decide (x / 2 ^ (p % 8) % 2=1):=Nat.testBit_eq_decide_div_mod_eq
 rw [wrap8 (by omega),e7]
 by_cases h:x / 2 ^ (p % 8) % 2=1
 ·simp [h]
 ·have:x / 2 ^ (p % 8) % 2=0:=by omega
  simp [this]
theorem byteS_bit (S:Nat→Bool) (p:Nat):(byteS S (p / 8)).testBit (p % 8)=S p:=by
 have hm:p % 8<8:=Nat.mod_lt _ (by decide)
 have e:8*(p / 8)+p % 8=p:=Nat.div_add_mod p 8
 rw [byteS,bitsN_bit,e]
 simp [hm]
theorem rem8 (p:Nat):¬ ((p:Int).tmod 8<0):=by
 rw [show ((p:Int).tmod 8)=((p % 8:Nat):Int) from (Int.ofNat_tmod p 8).symm];omega
theorem quo8 {p:Nat} (h:p<1099511627776):IntKind.i64.wrap ((p:Int).tdiv 8)=((p / 8:Nat):Int):=by
 have e:(p:Int).tdiv 8=((p / 8:Nat):Int):=(Int.ofNat_tdiv p 8).symm
 rw [e,wrap64 (by omega)]
structure PF (H:Heap) (bf w b h:Nat) (S:Nat→Bool):Prop where
 hb:H[bf]?=some (.cells [.int .i64 b,.int .i64 h,.msl w 0 ((b+7) / 8) 1])
 hw:H[w]?=some (.cells (msC eB (bytS S b)))
theorem PF.ext {H H':Heap} {bf w b h:Nat} {S:Nat→Bool} (k:PF H bf w b h S) (hx:Ext H H'):PF H' bf w b h S:=⟨hx.get k.hb,hx.get k.hw⟩
theorem bnew44 (b h:Int) (H:Heap):W env (.call 44 [.int .i64 b,.int .i64 h]) H (fun o H'=>Ext H H'∧((shOk b h=false∧o=.val (.tup [.nilp,.int .i64 1]))∨(shOk b h=true∧∃ bf w,o=.val (.tup [.ptr bf 0,.int .i64 0])∧H.length≤bf∧H.length≤w∧w≠bf∧∀ m n:Nat,b=m→h=n→PF H' bf w m n fun _=>false))):=by
 refine W.fnI rfl rfl rfl ?_
 simp -implicitDefEqProofs only [ir44,op,ef,cl,sq,reduceIte,q4,q5,j2,j3,j4,j5,j6,j7,j8,S1,S2]
 obtain ⟨H1,hH1⟩:∃ H1,H1=H++[B.cells [T.int .i64 b,T.int .i64 h]]:=⟨_,rfl⟩
 have hx1:Ext H H1:=⟨_,hH1⟩
 have c1:H1[H.length]?=some (.cells [T.int .i64 b,T.int .i64 h]):=by rw [hH1];exact g_tail rfl
 rw [← hH1]
 refine callB_of _ _ _ _ _ _ _ _ (may96 b h _) ?_
 rintro u H2 ⟨hu,hx2⟩
 cases hu
 have hx2:Ext H1 H2:=hx2
 have c2:=hx2.get c1
 cases hs:shOk b h
 ·simp -implicitDefEqProofs only [op,ef,cl,sq,reduceIte,q4,q5,j2,j3,j4,j5,j6,j7,j8,S1,c1,c2]
  exact ⟨hx1.trans hx2,.inl trivial⟩
 obtain ⟨m,n,rfl,rfl,m1,m2,n1,n2⟩:=shOk_t hs
 simp -implicitDefEqProofs only [op,ef,cl,sq,reduceIte,q4,q5,j2,j3,j4,j5,j6,j7,j8,S1,c1,c2]
 refine callB_of _ _ _ _ _ _ _ _ (size97 m n (by omega) _) ?_
 rintro u H3 ⟨hu,hx3⟩
 cases hu
 have hx3:Ext H2 H3:=hx3
 have c3:=hx3.get c2
 have l3:=glt c3
 have q1:(m+7) / 8*1≤281474976710656:=by omega
 have q2:(m+7) / 8≤9223372036854775807:=by omega
 have hx:=(hx1.trans hx2).trans hx3
 simp -implicitDefEqProofs only [op,ef,cl,sq,reduceIte,q4,q5,j2,j3,j4,j5,j6,j7,j8,S1,S2,S3,c1,c2,c3,l3,natOf_nat,q1,q2,Nat.le_refl]
 refine ⟨(hx.app _).app _,.inr ⟨_,_,rfl,by have:=hx.len;omega,hx.len,by omega,fun m' n' em en=>?_⟩⟩
 have em:m=m':=by omega
 have en:n=n':=by omega
 subst em;subst en
 refine ⟨?_,?_⟩
 ·rw [g_tail (by simp)]
 ·rw [g_app (by simp),g_tail rfl,bytS_zero]
  congr 2
  exact msC_rep (enc:=eB) _ 0
theorem badd47 {H:Heap} {bf w b h:Nat} {S:Nat→Bool} (hf:PF H bf w b h S) (b1:1≤b) (b2:b≤65536) (h2:h≤16) (t:ByteArray) (ht:t.size<9223372036854775807) (hne:w≠bf):W env (.call 47 [.ptr bf 0,.str t]) H (fun o H'=>o=.val (.tup [])∧PF H' bf w b h (addPs S (plcs t b h))∧Frm (fun c=>c=w) H H'):=by
 have l0:=glt hf.hb
 have lw:=glt hf.hw
 refine W.fnI rfl rfl rfl ?_
 simp -implicitDefEqProofs only [ir47,op,ef,cl,sq,reduceIte,q4,q5,j2,j3,j4,j5,j6,j7,j8,S1,hf.hb]
 refine callB_of _ _ _ _ _ _ _ _ (places99 t b h b1 b2 h2 _ ht) ?_
 rintro u H1 ⟨hx,k,hu⟩
 cases hu
 have hx:Ext H H1:=hx
 have c1:=hx.get hf.hb
 simp -implicitDefEqProofs only [op,ef,cl,sq,reduceIte,q4,q5,j2,j3,j4,j5,j6,j7,j8,S1,c1]
 refine W.loopV [(0,_),(11,_),(12,_)] (fun (i:Nat) R H'=>At H' (fun H'=>PF H' bf w b h (addPs S ((plcs t b h).take i))∧Frm (fun c=>c=w) H H')∧R 13=.int .i64 i∧i≤(plcs t b h).length) (fun i=>(plcs t b h).length-i) 0 ⟨.i ⟨by rw [List.take_zero,addPs_nil];exact hf.ext hx,ext_frm hx⟩,rfl,Nat.zero_le _⟩ ?_
 rintro i R H2 ⟨⟨hp,hfr⟩,g13,hi⟩
 by_cases hlt:i<(plcs t b h).length
 rotate_left
 ·have hie:i=(plcs t b h).length:=by omega
  subst hie
  rw [List.take_length] at hp
  simp -implicitDefEqProofs only [mkR_nil,mkR_cons,op,ef,cl,sq,reduceIte,q4,q5,j2,j3,j4,j5,j6,j7,j8,S1,List.length_map,g13,hlt]
  exact ⟨rfl,hp,hfr⟩
 obtain ⟨p,hpx⟩:=getP hlt
 have hpb:=plcs_lt (h:=h) (t:=t) b1 (List.mem_of_getElem? hpx)
 have ix:=iadX (e:=eI) (n:=1) (fun _=>rfl) (by decide) (k:=k) hpx
 have wsi:=wrap_succ (show i<9223372036854775807 by have:=plcs_len t b h;omega)
 have q8:=quo8 (p:=p) (by omega)
 have hj:p / 8<(b+7) / 8:=by omega
 have im:=iadm1 (c:=w) hj
 have hg:=bytS_at (addPs S ((plcs t b h).take i)) hj
 have gg:=msB_get hg
 have ss:=fun (Hx:Heap) y=>msB_set hg Hx w y
 have ov:=or_val (p:=p) (byteS_lt (addPs S ((plcs t b h).take i)) (p / 8))
 have hb2:=hp.hb
 have hw2:=hp.hw
 have lw2:=glt hw2
 have ci:∀ Hx,ldc Hx 1 (.iptr (eI p))=some [.int .i64 p]:=fun _=>rfl
 simp -implicitDefEqProofs only [mkR_nil,mkR_cons,op,ef,cl,sq,reduceIte,q4,q5,j2,j3,j4,j5,j6,j7,j8,S1,List.length_map,g13,hlt,natOf_nat,ix,ci,hb2,hw2,im,gg,q8,rem8,ov,ss,wsi]
 refine ⟨i+1,by omega,.i ⟨⟨?_,?_⟩,hfr.set (.inl rfl) _⟩,rfl,hlt⟩
 ·rw [g_ne hne];exact hb2
 ·rw [g_eq lw2,bytS_set,List.take_add_one,hpx]
  show _=some (B.cells (msC eB (bytS (addPs S ((plcs t b h).take i++[p])) b)))
  rw [addPs_snoc]
theorem elems_all {α:Type} {enc:α→List T} {n:Nat} (hn:∀ x,(enc x).length=n) {H:Heap} {b:Nat} {xs:List α} (hb:H[b]?=some (.cells (msC enc xs))) {m:Nat} (hm:m=xs.length):elemsOf H n (.msl b 0 m n)=some (xs.map enc):=by
 subst hm
 have h:=(elemsK_ms hn hb 0 xs.length xs.length 0 (by omega)).1
 rw [Nat.zero_mul,List.drop_zero,List.take_length] at h
 exact h
def hdr (b h:Nat):List Nat:=[b / 16777216 % 256,b / 65536 % 256,b / 256 % 256,b % 256,h % 256]
def filB (b h:Nat) (S:Nat→Bool):List Nat:=hdr b h++bytS S b
theorem sh8 (n m:Nat):IntKind.u8.wrap ((n:Int).fdiv (2 ^ m))=((n / 2 ^ m % 256:Nat):Int):=by rw [fdn,wrap8m]
theorem h24 (n:Nat):IntKind.u8.wrap ((n:Int).fdiv (2 ^ (min (24:Int).toNat IntKind.i64.bits)))=((n / 16777216 % 256:Nat):Int):=sh8 n 24
theorem h16 (n:Nat):IntKind.u8.wrap ((n:Int).fdiv (2 ^ (min (16:Int).toNat IntKind.i64.bits)))=((n / 65536 % 256:Nat):Int):=sh8 n 16
theorem h08 (n:Nat):IntKind.u8.wrap ((n:Int).fdiv (2 ^ (min (8:Int).toNat IntKind.i64.bits)))=((n / 256 % 256:Nat):Int):=sh8 n 8
theorem app_full {H:Heap} {bytes:Nat} (es new:List (List T)) (hr:roomOk (es.length+new.length) bytes=true) (he:∀ c∈new,c.map T.erase=c):∃ k' H',appT H bytes .full es new=some (.sl k' (es++new),H')∧Ext H H'∧k'≠.nil:=by
 cases new with
 | nil=>exact ⟨.full,H,by simp [appT],Ext.rfl',by simp⟩
 | cons c new =>
  refine ⟨.own H.length (es.length+(c :: new).length),H++[.tok (es.length+(c :: new).length)],?_,Ext.rfl'.app _,by simp⟩
  unfold appT
  simp -implicitDefEqProofs only [hr,if_true]
  have e:(c :: new).map (fun x=>x.map T.erase)=c :: new:=(List.map_congr_left he).trans (List.map_id _)
  rw [e]
theorem eB_erase {l:List Nat}:∀ c∈l.map eB,c.map T.erase=c:=fun c hc=>by
 obtain ⟨x,_,rfl⟩:=List.mem_map.1 hc;rfl
theorem bbytes48 {H:Heap} {bf w b h:Nat} {S:Nat→Bool} (hf:PF H bf w b h S) (b2:b≤65536):W env (.call 48 [.ptr bf 0]) H (fun o H'=>Ext H H'∧∃ k,k≠.nil∧o=.val (.sl k ((filB b h S).map eB))):=by
 refine W.fnI rfl rfl rfl ?_
 have hel:=elems_all eB_len hf.hw (bytS_len S b).symm
 obtain ⟨k',H1,ha,hx,hk⟩:=app_full (H:=H) (bytes:=1) ((hdr b h).map eB) ((bytS S b).map eB) (roomT (by simp -implicitDefEqProofs only [List.length_map,bytS_len,hdr,List.length_cons,List.length_nil];omega)) eB_erase
 have ha2:appT H 1 .full [[T.int .u8 ((b / 16777216 % 256:Nat):Int)],[T.int .u8 ((b / 65536 % 256:Nat):Int)],[T.int .u8 ((b / 256 % 256:Nat):Int)],[T.int .u8 ((b % 256:Nat):Int)],[T.int .u8 ((h % 256:Nat):Int)]] ((bytS S b).map eB)=some (.sl k' ((hdr b h).map eB++(bytS S b).map eB),H1):=ha
 simp -implicitDefEqProofs only [ir48,op,ef,cl,sq,reduceIte,q4,q5,j2,j3,j4,j5,j6,j7,j8,S1,hf.hb,h24,h16,h08,wrap8m,hel,ha2]
 refine ⟨hx,k',hk,?_⟩
 rw [filB,List.map_append]
def upTo (l:List ByteArray) (i:Nat):Prop:=∀ j a b,j+1<i→l[j]?=some a→l[j+1]?=some b→strLt a b=true
theorem upTo_all {l:List ByteArray} {i:Nat} (h:upTo l i) (hi:l.length≤i):rises l=true:=(rises_iff l).2 fun j a b ha hb=>h j a b (by have:=(List.getElem?_eq_some_iff.1 hb).1;omega) ha hb
theorem upTo_no {l:List ByteArray} {i:Nat} {x y:ByteArray} (h0:0<i) (hx:l[i]?=some x) (hy:l[i-1]?=some y) (h:strLt y x=false):rises l=false:=by
 cases e:rises l with
 | false=>rfl
 | true =>
  have:=(rises_iff l).1 e (i-1) y x hy (by rw [show i-1+1=i by omega];exact hx)
  rw [h] at this;cases this
theorem upTo_succ {l:List ByteArray} {i:Nat} {x y:ByteArray} (hu:upTo l i) (h0:0<i) (hx:l[i]?=some x) (hy:l[i-1]?=some y) (h:strLt y x=true):upTo l (i+1):=fun j a b hj ha hb=>by
 by_cases e:j+1=i
 ·have e2:j=i-1:=by omega
  subst e2
  rw [hy] at ha;rw [show i-1+1=i by omega,hx] at hb
  cases ha;cases hb;exact h
 ·exact hu j a b (by omega) ha hb
theorem rise109 (k:SK) (l:List ByteArray) (H:Heap) (hl:l.length<4611686018427387903):W env (.call 109 [.sl k (l.map eS)]) H (Ret (.bool (rises l)) H):=by
 refine W.fnI rfl rfl rfl ?_
 simp -implicitDefEqProofs only [ir109,op,ef,cl,sq,reduceIte,q4,q5,j2,j3,j4,j5,j6,j7,j8,S1,List.length_map]
 refine W.loopV [(0,_)] (fun (i:Nat) R H'=>H'=H∧R 3=.int .i64 i∧1≤i∧(i≤l.length∨i=1)∧upTo l i) (fun i=>l.length-i) 1 ⟨rfl,rfl,Nat.le_refl _,.inr rfl,fun j a b h=>by omega⟩ ?_
 rintro i R H' ⟨rfl,g3,i1,hi,hu⟩
 by_cases hlt:i<l.length
 rotate_left
 ·have hr:=upTo_all hu (by omega)
  by_cases h1:1≤l.length <;> by_cases h2:l.length≤1024 <;> simp -implicitDefEqProofs only [mkR_nil,mkR_cons,op,ef,cl,sq,reduceIte,q4,q5,j2,j3,j4,j5,j6,j7,j8,S1,List.length_map,g3,hlt,hr,h1,h2,Bool.false_and]
 obtain ⟨x,hx⟩:=getP hlt
 obtain ⟨y,hy⟩:=getP (l:=l) (i:=i-1) (by omega)
 have wp:=wrap_pred (show i<9223372036854775807 by omega) (show 0<i by omega)
 have ws:=wrap_succ (show i<9223372036854775807 by omega)
 have ix:=iadX (e:=eS) (n:=1) (fun _=>rfl) (by decide) (k:=k) hx
 have iy:=iadX (e:=eS) (n:=1) (fun _=>rfl) (by decide) (k:=k) hy
 cases hc:strLt y x
 ·have hr:=upTo_no (by omega) hx hy hc
  simp -implicitDefEqProofs only [mkR_nil,mkR_cons,op,ef,cl,sq,reduceIte,q4,q5,j2,j3,j4,j5,j6,j7,j8,S1,List.length_map,g3,hlt,natOf_nat,wp,ix,iy,eS,hc,hr,Bool.false_and]
 ·simp -implicitDefEqProofs only [mkR_nil,mkR_cons,op,ef,cl,sq,reduceIte,q4,q5,j2,j3,j4,j5,j6,j7,j8,S1,List.length_map,g3,hlt,natOf_nat,wp,ix,iy,eS,hc,ws]
  exact ⟨i+1,by omega,rfl,by omega,.inl hlt,upTo_succ hu (by omega) hx hy hc⟩
theorem rise45 (k:SK) (l:List ByteArray) (H:Heap) (hl:l.length<4611686018427387903):W env (.call 45 [.sl k (l.map eS)]) H (Ret (.bool (rises l&&decide (1≤l.length)&&decide (l.length≤1024))) H):=by
 refine W.fnI rfl rfl rfl ?_
 simp -implicitDefEqProofs only [ir45,op,ef,cl,sq,reduceIte,q4,q5,j2,j3,j4,j5,j6,j7,j8,S1,List.length_map]
 refine W.loopV [(0,_)] (fun (i:Nat) R H'=>H'=H∧R 3=.int .i64 i∧1≤i∧(i≤l.length∨i=1)∧upTo l i) (fun i=>l.length-i) 1 ⟨rfl,rfl,Nat.le_refl _,.inr rfl,fun j a b h=>by omega⟩ ?_
 rintro i R H' ⟨rfl,g3,i1,hi,hu⟩
 by_cases hlt:i<l.length
 rotate_left
 ·have hr:=upTo_all hu (by omega)
  by_cases h1:1≤l.length <;> by_cases h2:l.length≤1024 <;> simp -implicitDefEqProofs only [mkR_nil,mkR_cons,op,ef,cl,sq,reduceIte,q4,q5,j2,j3,j4,j5,j6,j7,j8,S1,List.length_map,g3,hlt,hr,h1,h2,Bool.false_and]
 obtain ⟨x,hx⟩:=getP hlt
 obtain ⟨y,hy⟩:=getP (l:=l) (i:=i-1) (by omega)
 have wp:=wrap_pred (show i<9223372036854775807 by omega) (show 0<i by omega)
 have ws:=wrap_succ (show i<9223372036854775807 by omega)
 have ix:=iadX (e:=eS) (n:=1) (fun _=>rfl) (by decide) (k:=k) hx
 have iy:=iadX (e:=eS) (n:=1) (fun _=>rfl) (by decide) (k:=k) hy
 cases hc:strLt y x
 ·have hr:=upTo_no (by omega) hx hy hc
  simp -implicitDefEqProofs only [mkR_nil,mkR_cons,op,ef,cl,sq,reduceIte,q4,q5,j2,j3,j4,j5,j6,j7,j8,S1,List.length_map,g3,hlt,natOf_nat,wp,ix,iy,eS,hc,hr,Bool.false_and]
 ·simp -implicitDefEqProofs only [mkR_nil,mkR_cons,op,ef,cl,sq,reduceIte,q4,q5,j2,j3,j4,j5,j6,j7,j8,S1,List.length_map,g3,hlt,natOf_nat,wp,ix,iy,eS,hc,ws]
  exact ⟨i+1,by omega,rfl,by omega,.inl hlt,upTo_succ hu (by omega) hx hy hc⟩
theorem memB_take {l:List ByteArray} {x y:ByteArray} {i:Nat} (hy:l[i]?=some y):memB (l.take (i+1)) x=(memB (l.take i) x||decide (y=x)):=by
 rw [List.take_add_one,hy];simp [memB]
theorem index98 (k:SK) (l:List ByteArray) (x:ByteArray) (H:Heap) (hl:l.length<4611686018427387903):W env (.call 98 [.sl k (l.map eS),.str x]) H (fun o H'=>H'=H∧∃ n:Int,o=.val (.int .i64 n)∧(decide (0≤n)=memB l x)):=by
 refine W.fnI rfl rfl rfl ?_
 simp -implicitDefEqProofs only [ir98,op,ef,cl,sq,reduceIte,q4,q5,j2,j3,j4,j5,j6,j7,j8,S1,List.length_map]
 refine W.loopV [(0,_),(1,_),(7,_)] (fun (i:Nat) R H'=>H'=H∧R 8=.int .i64 i∧i≤l.length∧memB (l.take i) x=false) (fun i=>l.length-i) 0 ⟨rfl,rfl,Nat.zero_le _,rfl⟩ ?_
 rintro i R H' ⟨rfl,g8,hi,hm⟩
 by_cases hlt:i<l.length
 rotate_left
 ·have hie:i=l.length:=by omega
  subst hie
  rw [List.take_length] at hm
  simp -implicitDefEqProofs only [mkR_nil,mkR_cons,op,ef,cl,sq,reduceIte,q4,q5,j2,j3,j4,j5,j6,j7,j8,S1,List.length_map,g8,hlt,hm]
  exact ⟨_,rfl,by decide⟩
 obtain ⟨y,hy⟩:=getP hlt
 have ws:=wrap_succ (show i<9223372036854775807 by omega)
 have iy:=iadX (e:=eS) (n:=1) (fun _=>rfl) (by decide) (k:=k) hy
 by_cases he:x=y
 ·subst he
  simp -implicitDefEqProofs only [mkR_nil,mkR_cons,op,ef,cl,sq,reduceIte,q4,q5,j2,j3,j4,j5,j6,j7,j8,S1,List.length_map,g8,hlt,natOf_nat,iy,eS]
  refine ⟨_,rfl,?_⟩
  rw [memB_iff.2 (List.mem_of_getElem? hy)]
  exact decide_eq_true (by omega)
 ·simp -implicitDefEqProofs only [mkR_nil,mkR_cons,op,ef,cl,sq,reduceIte,q4,q5,j2,j3,j4,j5,j6,j7,j8,S1,List.length_map,g8,hlt,natOf_nat,iy,eS,he,ws]
  exact ⟨i+1,by omega,rfl,hlt,by rw [memB_take hy,hm];simp [Ne.symm he]⟩
theorem contains46 (k:SK) (l:List ByteArray) (x:ByteArray) (H:Heap) (hl:l.length<4611686018427387903):W env (.call 46 [.sl k (l.map eS),.str x]) H (Ret (.bool (memB l x)) H):=by
 refine W.fnI rfl rfl rfl ?_
 simp -implicitDefEqProofs only [ir46,op,ef,cl,sq,reduceIte,q4,q5,j2,j3,j4,j5,j6,j7,j8,S1]
 refine callB_of _ _ _ _ _ _ _ _ (index98 k l x _ hl) ?_
 rintro u H1 ⟨rfl,n,hu,hn⟩
 cases hu
 simp -implicitDefEqProofs only [op,ef,cl,sq,reduceIte,q4,q5,j2,j3,j4,j5,j6,j7,j8,S1,ge_iff_le,hn]
end Go.Proofs.YtmgldhlcapjdkaaGreat.St
end
