/- Part of a proof of a law of this seat: the machine of plain values, its simulation, and the contracts of the functions that the law reaches. Conditions: none beyond the given row. -/
import Derived.Test.YtbkgokabcnogdaaGreatM4
import Derived.Test.YtbkgokabcnogdaaGreatRows
import Derived.WalkKit
import Derived.ProofKit
import Derived.OpenShut
import Derived.JoinedCond
import Derived.ChangeBears
open Int renaming reduceLT → q3, reduceLE → q5, reduceBEq → q6, reduceBNe → q7, reduceEq → q8
open Nat renaming reduceAdd → q9, reduceLeDiff → j1, reduceLT → j2, reduceEqDiff → j3
set_option linter.unusedSimpArgs false
set_option linter.unusedVariables false
set_option linter.unnecessarySimpa false
set_option maxHeartbeats 4000000
section
namespace Go.Proofs.YtbkgokabcnogdaaGreat.St
open Go.Rmp Go.Proofs.YtbkgokabcnogdaaGreat.Ir
set_option maxRecDepth 10000
theorem rid68 (n:Nat) (H:Heap):W env (.call 68 [.int .u64 n]) H (Ret (.bool (decide (65536≤n))) H):=by
 refine W.fnI rfl rfl rfl ?_
 simp -implicitDefEqProofs only [ir68,op,ef,cl,sq,reduceIte,q3,q5,q6,q7,q8,q9,j1,j2,j3,S1]
theorem rtick71 (now:Int) (H:Heap):W env (.call 71 [.int .i64 now]) H (Ret (.bool (decide (0≤now)&&decide (now≤1099511627776))) H):=by
 refine W.fnI rfl rfl rfl ?_
 cases h:decide (0≤now) <;> simp -implicitDefEqProofs only [ir71,op,ef,cl,sq,reduceIte,q3,q5,q6,q7,q8,q9,j1,j2,j3,S1,h,Bool.false_and]
theorem rhas70 (k:SK) (l:List ByteArray) (x:ByteArray) (H:Heap) (hl:l.length≤16777216):W env (.call 70 [.sl k (l.map eS),.str x]) H (Ret (.bool (memB l x)) H):=by
 refine W.fnI rfl rfl rfl ?_
 simp -implicitDefEqProofs only [ir70,op,ef,cl,sq,reduceIte,q3,q5,q6,q7,q8,q9,j1,j2,j3,S1]
 refine W.loopV [(0,_),(1,_)] (fun (i:Nat) R H'=>H'=H∧R 5=.int .i64 i∧i≤l.length∧x∉l.take i) (fun i=>l.length-i) 0 ⟨rfl,rfl,Nat.zero_le _,by simp⟩ ?_
 rintro i R H1 ⟨rfl,g5,hi,hno⟩
 by_cases hlt:i<l.length
 ·obtain ⟨y,hy⟩:=getP hlt
  have iy:=iadX (e:=eS) (n:=1) (fun _=>rfl) (by decide) (k:=k) hy
  have wsi:=wrap_succ (show i<9223372036854775807 by omega)
  by_cases h:y=x
  ·have hm:memB l x=true:=memB_iff.2 (h ▸ List.mem_of_getElem? hy)
   simp -implicitDefEqProofs only [mkR_nil,mkR_cons,op,ef,cl,sq,reduceIte,q3,q5,q6,q7,q8,q9,j1,j2,j3,S1,List.length_map,g5,hlt,natOf_nat,iy,eS,h,hm]
  ·simp -implicitDefEqProofs only [mkR_nil,mkR_cons,op,ef,cl,sq,reduceIte,q3,q5,q6,q7,q8,q9,j1,j2,j3,S1,List.length_map,g5,hlt,natOf_nat,iy,eS,h,wsi]
   refine ⟨i+1,by omega,rfl,hlt,?_⟩
   rw [take_sn hy];simp [hno,Ne.symm h]
 ·have hie:i=l.length:=by omega
  subst hie
  rw [List.take_length] at hno
  have hm:memB l x=false:=memB_no.2 hno
  simp -implicitDefEqProofs only [mkR_nil,mkR_cons,op,ef,cl,sq,reduceIte,q3,q5,q6,q7,q8,q9,j1,j2,j3,S1,List.length_map,g5,hlt,hm]
def lensB (l:List ByteArray):Bool:=l.all (fun x=>decide (x.size≤65535))&&(decide (1≤l.length)&&decide (l.length≤1024))
theorem rlen92 (k:SK) (l:List ByteArray) (H:Heap) (hl:l.length≤16777216):W env (.call 92 [.sl k (l.map eS)]) H (Ret (.bool (lensB l)) H):=by
 refine W.fnI rfl rfl rfl ?_
 simp -implicitDefEqProofs only [ir92,op,ef,cl,sq,reduceIte,q3,q5,q6,q7,q8,q9,j1,j2,j3,S1]
 refine W.loopV [(0,_)] (fun (i:Nat) R H'=>H'=H∧R 3=.int .i64 i∧i≤l.length∧(l.take i).all (fun x=>decide (x.size≤65535))=true) (fun i=>l.length-i) 0 ⟨rfl,rfl,Nat.zero_le _,by simp⟩ ?_
 rintro i R H1 ⟨rfl,g3,hi,hall⟩
 by_cases hlt:i<l.length
 ·obtain ⟨y,hy⟩:=getP hlt
  have iy:=iadX (e:=eS) (n:=1) (fun _=>rfl) (by decide) (k:=k) hy
  have wsi:=wrap_succ (show i<9223372036854775807 by omega)
  by_cases h:65535<y.size
  ·have hf:lensB l=false:=by
    unfold lensB
    have:l.all (fun x=>decide (x.size≤65535))=false:=List.all_eq_false.2 ⟨y,List.mem_of_getElem? hy,by simp;omega⟩
    rw [this];rfl
   simp -implicitDefEqProofs only [mkR_nil,mkR_cons,op,ef,cl,sq,reduceIte,q3,q5,q6,q7,q8,q9,j1,j2,j3,S1,List.length_map,g3,hlt,natOf_nat,iy,eS,h,hf]
  ·simp -implicitDefEqProofs only [mkR_nil,mkR_cons,op,ef,cl,sq,reduceIte,q3,q5,q6,q7,q8,q9,j1,j2,j3,S1,List.length_map,g3,hlt,natOf_nat,iy,eS,h,wsi]
   refine ⟨i+1,by omega,rfl,hlt,?_⟩
   rw [take_sn hy,List.all_append,hall];simp;omega
 ·have hie:i=l.length:=by omega
  subst hie
  rw [List.take_length] at hall
  have hf:lensB l=(decide (1≤l.length)&&decide (l.length≤1024)):=by unfold lensB;rw [hall];rfl
  by_cases h1:1≤l.length
  ·simp -implicitDefEqProofs only [mkR_nil,mkR_cons,op,ef,cl,sq,reduceIte,q3,q5,q6,q7,q8,q9,j1,j2,j3,S1,List.length_map,g3,hlt,hf,h1]
  ·simp -implicitDefEqProofs only [mkR_nil,mkR_cons,op,ef,cl,sq,reduceIte,q3,q5,q6,q7,q8,q9,j1,j2,j3,S1,List.length_map,g3,hlt,hf,h1,Bool.false_and]
theorem rris93 (k:SK) (l:List ByteArray) (H:Heap) (hl:l.length≤16777216):W env (.call 93 [.sl k (l.map eS)]) H (Ret (.bool (rises l)) H):=by
 refine W.fnI rfl rfl rfl ?_
 simp -implicitDefEqProofs only [ir93,op,ef,cl,sq,reduceIte,q3,q5,q6,q7,q8,q9,j1,j2,j3,S1]
 refine W.loopV [(0,_)] (fun (i:Nat) R H'=>H'=H∧R 3=.int .i64 ((i:Nat)+1:Nat)∧∀ j,j<i→∀ a b,l[j]?=some a→l[j+1]?=some b→strLt a b=true) (fun i=>l.length-i) 0 ⟨rfl,rfl,fun j h=>by omega⟩ ?_
 rintro i R H1 ⟨rfl,g3,hall⟩
 by_cases hlt:i+1<l.length
 ·obtain ⟨y,hy⟩:=getP hlt
  obtain ⟨z,hz⟩:=getP (l:=l) (i:=i) (by omega)
  have iy:=iadX (e:=eS) (n:=1) (fun _=>rfl) (by decide) (k:=k) hy
  have iz:=iadX (e:=eS) (n:=1) (fun _=>rfl) (by decide) (k:=k) hz
  have wsi:=wrap_succ (show i+1<9223372036854775807 by omega)
  have wp:=wrap_pred (show i+1<9223372036854775807 by omega) (by omega)
  simp -implicitDefEqProofs only [Nat.add_sub_cancel] at wp
  cases h:strLt z y
  ·have hf:rises l=false:=by
    cases e:rises l with
    | false=>rfl
    | true=>have:=(rises_iff l).1 e i z y hz hy;rw [h] at this;cases this
   simp -implicitDefEqProofs only [mkR_nil,mkR_cons,op,ef,cl,sq,reduceIte,q3,q5,q6,q7,q8,q9,j1,j2,j3,S1,List.length_map,g3,hlt,natOf_nat,wp,iy,iz,eS,h,hf]
  ·simp -implicitDefEqProofs only [mkR_nil,mkR_cons,op,ef,cl,sq,reduceIte,q3,q5,q6,q7,q8,q9,j1,j2,j3,S1,List.length_map,g3,hlt,natOf_nat,wp,iy,iz,eS,h,wsi]
   refine ⟨i+1,by omega,rfl,fun j hj a b ha hb=>?_⟩
   by_cases e:j=i
   ·subst e;rw [hz] at ha;rw [hy] at hb;cases ha;cases hb;exact h
   ·exact hall j (by omega) a b ha hb
 ·have hr:rises l=true:=(rises_iff l).2 fun j a b ha hb=>hall j (by have:=(List.getElem?_eq_some_iff.1 hb).1;omega) a b ha hb
  simp -implicitDefEqProofs only [mkR_nil,mkR_cons,op,ef,cl,sq,reduceIte,q3,q5,q6,q7,q8,q9,j1,j2,j3,S1,List.length_map,g3,hlt,hr]
theorem rwhole69 (k:SK) (l:List ByteArray) (H:Heap) (hl:l.length≤16777216):W env (.call 69 [.sl k (l.map eS)]) H (Ret (.bool (goodB l)) H):=by
 have hg:goodB l=(lensB l&&rises l):=by
  unfold goodB lensB
  cases rises l <;> cases l.all (fun x=>decide (x.size≤65535)) <;> cases decide (1≤l.length) <;> cases decide (l.length≤1024) <;> rfl
 refine W.fnI rfl rfl rfl ?_
 simp -implicitDefEqProofs only [ir69,op,ef,cl,sq,reduceIte,q3,q5,q6,q7,q8,q9,j1,j2,j3,S1]
 refine callB_of _ _ _ _ _ _ _ _ (rlen92 k l _ hl) ?_
 rintro u H1 ⟨hu,rfl⟩
 cases hu
 cases h:lensB l
 ·rw [h,Bool.false_and] at hg
  simp -implicitDefEqProofs only [op,ef,cl,sq,reduceIte,q3,q5,q6,q7,q8,q9,j1,j2,j3,S1,hg]
 ·rw [h,Bool.true_and] at hg
  simp -implicitDefEqProofs only [op,ef,cl,sq,reduceIte,q3,q5,q6,q7,q8,q9,j1,j2,j3,S1]
  refine callB_of _ _ _ _ _ _ _ _ (rris93 k l _ hl) ?_
  rintro u H2 ⟨hu,rfl⟩
  cases hu
  simp -implicitDefEqProofs only [op,ef,cl,sq,reduceIte,q3,q5,q6,q7,q8,q9,j1,j2,j3,S1,hg]
theorem ltM_eq (a b:Nm):ltM a b=(strLt a.1 b.1||(decide (a.1=b.1)&&decide (a.2<b.2))):=by
 rw [Bool.eq_iff_iff,ltM_iff];simp
theorem rless32 (a b:Nm) (va vb ka kb:T) (ha:va.one=true∧vb.one=true∧ka.one=true∧kb.one=true) (H:Heap):W env (.call 32 [.agg [.str a.1,.int .u64 a.2,va,ka],.agg [.str b.1,.int .u64 b.2,vb,kb]]) H (RetG (.bool (ltM a b)) H):=by
 have hl:=ltM_eq a b
 have c0:∀ x y:B,(H++[x]++[y])[H.length]?=some x:=fun x y=>by rw [g_app (by simp),g_tail rfl]
 have ce:∀ l:List T,(T.agg l).cells?=some l:=fun _=>rfl
 refine W.fnI rfl rfl rfl ?_
 cases h1:strLt a.1 b.1
 ·by_cases h2:a.1=b.1
  ·rw [h1] at hl
   simp -implicitDefEqProofs only [h2,decide_true,Bool.true_and,Bool.false_or] at hl
   rw [h2] at h1
   simp -implicitDefEqProofs only [ir32,op,ef,cl,sq,reduceIte,q3,q5,q6,q7,q8,q9,j1,j2,j3,S1,S2,S3,c0,h1,h2,hl,retg_ext ((Ext.rfl'.app _).app _)]
  ·rw [h1] at hl
   simp -implicitDefEqProofs only [h2,decide_false,Bool.false_and,Bool.false_or] at hl
   simp -implicitDefEqProofs only [ir32,op,ef,cl,sq,reduceIte,q3,q5,q6,q7,q8,q9,j1,j2,j3,S1,S2,S3,c0,h1,h2,hl,retg_ext ((Ext.rfl'.app _).app _)]
 ·rw [h1,Bool.true_or] at hl
  simp -implicitDefEqProofs only [ir32,op,ef,cl,sq,reduceIte,q3,q5,q6,q7,q8,q9,j1,j2,j3,S1,S2,S3,c0,h1,hl,retg_ext ((Ext.rfl'.app _).app _)]
theorem mut_frm {α:Type} {enc:α→List T} {n n0:Nat} {H H':Heap} {G:Nat→Prop} {t:T} {l:List α} (h:Mut enc n n0 H t l) (hf:Frm G H H') (hg:∀ c,tb t=some c→¬ G c):Mut enc n n0 H' t l:=by
 rcases h with h | ⟨c,rfl,hc,h0⟩
 ·exact .inl h
 ·exact .inr ⟨c,rfl,hf.get hc (hg c rfl),h0⟩
theorem mut_blk {α:Type} {enc:α→List T} {n n0:Nat} {H:Heap} {t:T} {l:List α} (h:Mut enc n n0 H t l) {c:Nat} (hc:tb t=some c):H[c]?=some (.cells (msC enc l)):=by
 rcases h with ⟨_,rfl⟩ | ⟨c',rfl,hc',_⟩
 ·cases hc
 ·cases hc;exact hc'
theorem stayM_frm {n0:Nat} {H H':Heap} {t:T} (h:StayM n0 H t H'):Frm (fun c=>tb t=some c) H H':=⟨h.len,fun c hc hg=>by
 have hx:H[c]?=some H[c]:=List.getElem?_eq_getElem hc
 rw [hx]
 exact h.get c _ hx fun off len n e=>hg (by rw [e];rfl)⟩
theorem fgt_mut {α:Type} {enc:α→List T} {n n0:Nat} {H:Heap} {t:T} {l:List α} (h:Mut enc n n0 H t l):fgt t=t:=by
 rcases h with ⟨_,rfl⟩ | ⟨c,rfl,_⟩ <;> rfl
theorem len_mut {α:Type} {enc:α→List T} {n n0:Nat} {H:Heap} {t:T} {l:List α} (h:Mut enc n n0 H t l):∀ Hx,lenT Hx .sl t=some l.length:=fun Hx=>by
 rcases h with ⟨e,rfl⟩ | ⟨c,rfl,_,_⟩
 ·rw [e];rfl
 ·rfl
def mapTo {α:Type} (f:α→α) (l:List α) (i:Nat):List α:=(l.take i).map f++l.drop i
section
variable {α:Type} {f:α→α} {l:List α} {i:Nat} {x:α}
theorem mapTo_0:mapTo f l 0=l:=by simp [mapTo]
theorem mapTo_len:(mapTo f l i).length=l.length:=by simp [mapTo];omega
theorem mapTo_end:mapTo f l l.length=l.map f:=by simp [mapTo]
theorem drop_at (h:l[i]?=some x):l.drop i=x :: l.drop (i+1):=by
 obtain ⟨hi,e⟩:=List.getElem?_eq_some_iff.1 h
 rw [← e];exact List.drop_eq_getElem_cons hi
theorem mapTo_get (h:l[i]?=some x):(mapTo f l i)[i]?=some x:=by
 have hi:=(List.getElem?_eq_some_iff.1 h).1
 unfold mapTo
 rw [List.getElem?_append_right (by simp;omega),drop_at h]
 have:i-((l.take i).map f).length=0:=by simp;omega
 rw [this];rfl
theorem mapTo_set (h:l[i]?=some x):(mapTo f l i).set i (f x)=mapTo f l (i+1):=by
 have hi:=(List.getElem?_eq_some_iff.1 h).1
 unfold mapTo
 rw [take_sn h,drop_at h,List.set_append_right _ _ (by simp;omega)]
 have:i-((l.take i).map f).length=0:=by simp;omega
 rw [this];simp
theorem mapTo_same (h:l[i]?=some x) (e:f x=x):mapTo f l (i+1)=mapTo f l i:=by
 rw [← mapTo_set h,e]
 refine List.ext_getElem? fun j=>?_
 rw [List.getElem?_set]
 split
 ·rename_i hj;subst hj
  rw [mapTo_get h]
  have hi:=(List.getElem?_eq_some_iff.1 h).1
  rw [mapTo_len,if_pos hi]
 ·rfl
end
theorem tb_of {α:Type} {enc:α→List T} {n n0:Nat} {H:Heap} {t:T} {l:List α} {i c q:Nat} {x:α} (h:Mut enc n n0 H t l) (hx:l[i]?=some x) (hi:iadT n i t=some (.ptr c q)) (h0:n≠0):tb t=some c:=by
 rcases h with ⟨e,_⟩ | ⟨c',e1,_,_⟩
 ·rw [e] at hx;cases hx
 ·rw [e1,iad_m] at hi
  split at hi
  ·simp -implicitDefEqProofs only [Option.some.injEq,T.ptr.injEq] at hi
   rw [e1,← hi.1];rfl
  ·cases hi
theorem appM_any {α:Type} {enc:α→List T} {n:Nat} (hn:∀ x,(enc x).length=n) {H:Heap} {t:T} {l:List α} {bytes:Nat} (new:List α) (h:Mut enc n 0 H t l) (hr:roomOk (l.length+new.length) bytes=true) :
  ∃ t' H',appM H n bytes t (new.map enc)=some (t',H')∧Mut enc n 0 H' t' (l++new)∧Frm (fun c=>tb t=some c) H H'∧∀ c,tb t'=some c→(tb t=some c∧new=[])∨H.length≤c:=by
 by_cases he:new=[]
 ·subst he
  refine ⟨t,H,?_,by simpa using h,Frm.refl _ _,fun c hc=>.inl ⟨hc,rfl⟩⟩
  have:isSlT t=true:=by rcases h with ⟨_,rfl⟩ | ⟨c,rfl,_⟩ <;> rfl
  simp [appM,this]
 ·obtain ⟨t',H',ha,hm,hst⟩:=appM_ok (enc:=enc) (n:=n) (n0:=0) hn (bytes:=bytes) new h (Nat.zero_le _) he hr
  refine ⟨t',H',ha,hm,stayM_frm hst,fun c hc=>.inr ?_⟩
  rcases hm with ⟨e,_⟩ | ⟨c',rfl,_,_⟩
  ·simp at e;exact absurd e.2 he
  ·cases hc;exact appM_fr ha (by simpa using he)
theorem elems_sub {α:Type} {enc:α→List T} {n:Nat} (hn:∀ x,(enc x).length=n) {H:Heap} {b:Nat} {xs:List α} (hb:H[b]?=some (.cells (msC enc xs))) (j k:Nat) (hjk:j+k≤xs.length):elemsOf H n (.msl b (j*n) k n)=some (((xs.drop j).take k).map enc):=(elemsK_ms hn hb j k k 0 hjk).1
structure RC (H:Heap) (p:Nat) (tK tL:T) (K:List Kd) (L:List Nm) (G:Nat→Prop):Prop where
 hp:H[p]?=some (.cells [tK,tL])
 mK:Mut eKd 5 0 H tK K
 mL:Mut eW 2 0 H tL L
 gp:G p
 gK:∀ c,tb tK=some c→G c∧c≠p
 gL:∀ c,tb tL=some c→G c∧c≠p
 ne:∀ c,tb tK=some c→tb tL=some c→False
 ko:∀ x∈K,x.kk=.arg∧x.keys.length≤1024
theorem RC.frm {H H':Heap} {p:Nat} {tK tL:T} {K:List Kd} {L:List Nm} {G D:Nat→Prop} (h:RC H p tK tL K L G) (hf:Frm D H H') (hd:∀ c,G c→c<H.length→¬ D c):RC H' p tK tL K L G :=
 ⟨hf.get h.hp (hd p h.gp (glt h.hp)),mut_frm h.mK hf fun c hc=>hd c (h.gK c hc).1 (glt (mut_blk h.mK hc)),mut_frm h.mL hf fun c hc=>hd c (h.gL c hc).1 (glt (mut_blk h.mL hc)),h.gp,h.gK,h.gL,h.ne,h.ko⟩
theorem RC.ext {H H':Heap} {p:Nat} {tK tL:T} {K:List Kd} {L:List Nm} {G:Nat→Prop} (h:RC H p tK tL K L G) (hx:Ext H H'):RC H' p tK tL K L G:=h.frm (ext_frm (F:=fun _=>False) hx) fun _ _ _ h=>h
def fiK (K:List Kd) (m:Nm):Nat:=(K.takeWhile fun x=>ltM x.nm m).length
theorem tw_len {α:Type} {p:α→Bool}:∀ {l:List α} {i:Nat},(∀ j x,j<i→l[j]?=some x→p x=true)→i≤l.length→(∀ x,l[i]?=some x→p x=false)→(l.takeWhile p).length=i
 | [],i,_,hi,_=>by simp at hi;subst hi;rfl
 | x :: l,0,_,_,h=>by have:=h x rfl;simp [List.takeWhile_cons,this]
 | x :: l,i+1,h1,hi,h2=>by
  have hx:=h1 0 x (by omega) rfl
  simp -implicitDefEqProofs only [List.takeWhile_cons,hx,if_true,List.length_cons]
  rw [tw_len (i:=i) (fun j y hj hy=>h1 (j+1) y (Nat.succ_lt_succ hj) (by simpa using hy)) (by simpa using hi) (fun y hy=>h2 y (by simpa using hy))]
theorem tw_lt {α:Type} {p:α→Bool}:∀ {l:List α} {j:Nat} {x:α},j<(l.takeWhile p).length→l[j]?=some x→p x=true
 | [],j,x,h,_=>by simp at h
 | y :: l,j,x,h,hx=>by
  simp -implicitDefEqProofs only [List.takeWhile_cons] at h
  cases hy:p y
  ·rw [hy] at h;simp at h
  ·rw [hy] at h
   cases j with
   | zero=>cases hx;exact hy
   | succ j=>exact tw_lt (j:=j) (by simpa using h) (by simpa using hx)
theorem tw_at {α:Type} {p:α→Bool}:∀ {l:List α} {x:α},l[(l.takeWhile p).length]?=some x→p x=false
 | [],x,h=>by simp at h
 | y :: l,x,h=>by
  simp -implicitDefEqProofs only [List.takeWhile_cons] at h
  cases hy:p y
  ·rw [hy] at h;simp at h;subst h;exact hy
  ·rw [hy] at h;simp at h;exact tw_at h
theorem tw_le {α:Type} (p:α→Bool):∀ l:List α,(l.takeWhile p).length≤l.length
 | []=>by simp
 | y :: l=>by
  simp -implicitDefEqProofs only [List.takeWhile_cons]
  split
  ·have:=tw_le p l;simp;omega
  ·simp
theorem fiK_mem {K:List Kd} (hs:keptUp K) (m:Nm):memN (K.map Kd.nm) m=true↔∃ x,K[fiK K m]?=some x∧x.nm=m:=by
 rw [memN_iff,List.mem_map]
 constructor
 ·rintro ⟨x,hx,rfl⟩
  obtain ⟨j,hj,e⟩:=List.getElem_of_mem hx
  refine ⟨x,?_,rfl⟩
  have:fiK K x.nm=j:=tw_len (fun i y hi hy=>by
   have:=List.pairwise_iff_getElem.1 hs i j (List.getElem?_eq_some_iff.1 hy).1 hj hi
   rw [(List.getElem?_eq_some_iff.1 hy).2,e] at this;exact this) (Nat.le_of_lt hj) (fun y hy=>by
   rw [List.getElem?_eq_getElem hj,e] at hy;cases hy;exact ltM_irr _)
  rw [this,List.getElem?_eq_getElem hj,e]
 ·rintro ⟨x,hx,e⟩;exact ⟨x,List.mem_of_getElem? hx,e⟩
theorem rlast56 {H:Heap} {p:Nat} {tK tL:T} {K:List Kd} {L:List Nm} {G:Nat→Prop} (h:RC H p tK tL K L G) (hl:L.length≤8000000) (k:ByteArray):W env (.call 56 [.ptr p 0,.str k]) H (Ret (.int .u64 ((ldAb K L).last k:Nat)) H):=by
 have hlen:=len_mut h.mL
 have hlast:∀ ls:List Nm,(ldAb K ls).last k=(mlook ls k).getD 0:=fun _=>rfl
 refine W.fnI rfl rfl rfl ?_
 simp -implicitDefEqProofs only [ir56,op,ef,cl,sq,reduceIte,q3,q5,q6,q7,q8,q9,j1,j2,j3,S1]
 refine W.loopV [(0,_),(1,_)] (fun (i:Nat) R H'=>H'=H∧R 5=.int .i64 i∧i≤L.length∧mlook L k=mlook (L.drop i) k) (fun i=>L.length-i) 0 ⟨rfl,rfl,Nat.zero_le _,by simp⟩ ?_
 rintro i R H1 ⟨rfl,g5,hi,hno⟩
 by_cases hlt:i<L.length
 ·obtain ⟨x,hx⟩:=getP hlt
  obtain ⟨c,hc,ia,_⟩:=mut_n (enc:=eW) (n:=2) (fun _=>rfl) (by decide) h.mL hx
  have wsi:=wrap_succ (show i<9223372036854775807 by omega)
  have r0:ldcB 1 (i*2+0) (some (.cells (msC eW L)))=some [.str x.1]:=msC_get (enc:=eW) (n:=2) (fun _=>rfl) hx 0 1 (by decide)
  have r1:ldcB 1 (i*2+1) (some (.cells (msC eW L)))=some [.int .u64 x.2]:=msC_get (enc:=eW) (n:=2) (fun _=>rfl) hx 1 1 (by decide)
  have he:mlook (L.drop i) k=if k=x.1 then some x.2 else mlook (L.drop (i+1)) k:=by
   rw [drop_at hx,mlook_cons]
  by_cases h1:x.1=k
  ·rw [if_pos h1.symm] at he
   have:(ldAb K L).last k=x.2:=by rw [hlast,hno,he];rfl
   simp -implicitDefEqProofs only [mkR_nil,mkR_cons,op,ef,cl,sq,reduceIte,q3,q5,q6,q7,q8,q9,j1,j2,j3,S1,h.hp,hlen,g5,hlt,natOf_nat,ia,hc,r0,r1,h1,this]
  ·rw [if_neg fun h=>h1 h.symm] at he
   simp -implicitDefEqProofs only [mkR_nil,mkR_cons,op,ef,cl,sq,reduceIte,q3,q5,q6,q7,q8,q9,j1,j2,j3,S1,h.hp,hlen,g5,hlt,natOf_nat,ia,hc,r0,r1,h1,wsi]
   exact ⟨i+1,by omega,rfl,hlt,by rw [hno,he]⟩
 ·have hie:i=L.length:=by omega
  subst hie
  have:(ldAb K L).last k=0:=by rw [hlast,hno,List.drop_length];rfl
  simp -implicitDefEqProofs only [mkR_nil,mkR_cons,op,ef,cl,sq,reduceIte,q3,q5,q6,q7,q8,q9,j1,j2,j3,S1,h.hp,hlen,g5,hlt,this]
  rfl
set_option maxHeartbeats 1000000 in
theorem rfind34 {H:Heap} {p:Nat} {tK tL:T} {K:List Kd} {L:List Nm} {G:Nat→Prop} (h:RC H p tK tL K L G) (hs:keptUp K) (hl:K.length≤8000000) (m:Nm):W env (.call 34 [.ptr p 0,.str m.1,.int .u64 m.2]) H (fun o H'=>Ext H H'∧o=.val (.tup [.int .i64 (fiK K m),.bool (memN (K.map Kd.nm) m)])):=by
 have hlen:=len_mut h.mK
 refine W.fnI rfl rfl rfl ?_
 simp -implicitDefEqProofs only [ir34,op,ef,cl,sq,reduceIte,q3,q5,q6,q7,q8,q9,j1,j2,j3,S1]
 refine W.loopX 0 [(0,_),(1,_),(2,_)] (fun (i:Nat) R H'=>At H' (fun H'=>Ext H H')∧R 8=.int .i64 i∧i≤K.length∧∀ j x,j<i→K[j]?=some x→ltM x.nm m=true) (fun i=>K.length-i) 0
  (fun R H'=>At H' (fun H'=>Ext H H')∧R 8=.int .i64 (fiK K m)) ⟨.i Ext.rfl',rfl,Nat.zero_le _,fun j x hj=>by omega⟩ ?_ ?_
 ·rintro i R H1 ⟨hx1,g8,hi,hall⟩
  have hx1:Ext H H1:=hx1
  have h1:=h.ext hx1
  by_cases hlt:i<K.length
  ·obtain ⟨x,hx⟩:=getP hlt
   obtain ⟨c,hc,ia,_⟩:=mut_n (enc:=eKd) (n:=5) (fun _=>rfl) (by decide) h1.mK hx
   have wsi:=wrap_succ (show i<9223372036854775807 by omega)
   have r0:ldcB 4 (i*5+0) (some (.cells (msC eKd K)))=some [.str x.nm.1,.int .u64 x.nm.2,.str x.value,.sl x.kk (x.keys.map eS)]:=msC_get (enc:=eKd) (n:=5) (fun _=>rfl) hx 0 4 (by decide)
   simp -implicitDefEqProofs only [mkR_nil,mkR_cons,op,ef,cl,sq,reduceIte,q3,q5,q6,q7,q8,q9,j1,j2,j3,S1,h1.hp,hlen,g8,hlt,natOf_nat,ia,hc,r0]
   refine callB_of _ _ _ _ _ _ _ _ (rless32 x.nm m _ _ _ _ ⟨rfl,rfl,rfl,rfl⟩ _) ?_
   rintro u H2 ⟨hu,hx2⟩
   cases hu
   have hx2:Ext H1 H2:=hx2
   cases hlm:ltM x.nm m
   ·simp -implicitDefEqProofs only [mkR_nil,mkR_cons,op,ef,cl,sq,reduceIte,q3,q5,q6,q7,q8,q9,j1,j2,j3,S1,g8]
    refine ⟨.i (hx1.trans hx2),?_⟩
    rw [fiK,tw_len hall hi fun y hy=>by rw [hx] at hy;cases hy;exact hlm]
   ·simp -implicitDefEqProofs only [mkR_nil,mkR_cons,op,ef,cl,sq,reduceIte,q3,q5,q6,q7,q8,q9,j1,j2,j3,S1,g8,wsi]
    refine ⟨i+1,by omega,.i (hx1.trans hx2),rfl,hlt,fun j y hj hy=>?_⟩
    by_cases e:j=i
    ·subst e;rw [hx] at hy;cases hy;exact hlm
    ·exact hall j y (by omega) hy
  ·have hie:i=K.length:=by omega
   subst hie
   simp -implicitDefEqProofs only [mkR_nil,mkR_cons,op,ef,cl,sq,reduceIte,q3,q5,q6,q7,q8,q9,j1,j2,j3,S1,h1.hp,hlen,g8,hlt]
   refine ⟨.i hx1,?_⟩
   rw [fiK,tw_len hall hi fun y hy=>by have:=(List.getElem?_eq_some_iff.1 hy).1;omega]
 ·rintro R H1 ⟨hx1,g8⟩
  have hx1:Ext H H1:=hx1
  have h1:=h.ext hx1
  have hmem:=fiK_mem hs m
  have no:(∀ x,K[fiK K m]?=some x→x.nm≠m)→memN (K.map Kd.nm) m=false:=fun hh=>by
   cases e:memN (K.map Kd.nm) m with
   | false=>rfl
   | true=>obtain ⟨x,hx,e2⟩:=hmem.1 e;exact absurd e2 (hh x hx)
  by_cases hlt:fiK K m<K.length
  ·obtain ⟨x,hx⟩:=getP hlt
   obtain ⟨c,hc,ia,_⟩:=mut_n (enc:=eKd) (n:=5) (fun _=>rfl) (by decide) h1.mK hx
   have r0:ldcB 1 (fiK K m*5+0+0) (some (.cells (msC eKd K)))=some [.str x.key]:=msC_get (enc:=eKd) (n:=5) (fun _=>rfl) hx 0 1 (by decide)
   have r1:ldcB 1 (fiK K m*5+0+1) (some (.cells (msC eKd K)))=some [.int .u64 x.id]:=msC_get (enc:=eKd) (n:=5) (fun _=>rfl) hx 1 1 (by decide)
   by_cases e1:x.key=m.1
   ·by_cases e2:x.id=m.2
    ·have ht:memN (K.map Kd.nm) m=true:=hmem.2 ⟨x,hx,Prod.ext e1 e2⟩
     simp -implicitDefEqProofs only [mkR_nil,mkR_cons,op,ef,cl,sq,reduceIte,q3,q5,q6,q7,q8,q9,j1,j2,j3,S1,h1.hp,hlen,g8,hlt,natOf_nat,ia,hc,r0,r1,e1,e2,ht]
     exact hx1
    ·have hf:=no fun y hy e=>by rw [hx] at hy;cases hy;exact e2 (congrArg Prod.snd e)
     simp -implicitDefEqProofs only [mkR_nil,mkR_cons,op,ef,cl,sq,reduceIte,q3,q5,q6,q7,q8,q9,j1,j2,j3,S1,h1.hp,hlen,g8,hlt,natOf_nat,ia,hc,r0,r1,e1,e2,hf]
     exact hx1
   ·have hf:=no fun y hy e=>by rw [hx] at hy;cases hy;exact e1 (congrArg Prod.fst e)
    simp -implicitDefEqProofs only [mkR_nil,mkR_cons,op,ef,cl,sq,reduceIte,q3,q5,q6,q7,q8,q9,j1,j2,j3,S1,h1.hp,hlen,g8,hlt,natOf_nat,ia,hc,r0,r1,e1,hf]
    exact hx1
  ·have hf:=no fun y hy e=>by have:=(List.getElem?_eq_some_iff.1 hy).1;omega
   simp -implicitDefEqProofs only [mkR_nil,mkR_cons,op,ef,cl,sq,reduceIte,q3,q5,q6,q7,q8,q9,j1,j2,j3,S1,h1.hp,hlen,g8,hlt,hf]
   exact hx1
theorem app_nil {α:Type} {enc:α→List T} {n bytes:Nat} (he:∀ x,(enc x).map T.erase=enc x) (l:List α) (hr:roomOk l.length bytes=true) (H:Heap):∃ k' H',appT H bytes .nil [] (l.map enc)=some (.sl k' (l.map enc),H')∧Ext H H'∧KOk k' l:=by
 cases l with
 | nil=>exact ⟨.nil,H,rfl,Ext.rfl',fun _=>rfl⟩
 | cons a l =>
  obtain ⟨k',H',ha,hap,hst⟩:=app_ok (n0:=H.length) (H:=H) (bytes:=bytes) (k:=.nil) [] ((a :: l).map enc) (.inl rfl) (Nat.le_refl _) (by simp) (by simpa using hr)
  have e:((a :: l).map enc).map (·.map T.erase)=(a :: l).map enc:=by
   rw [List.map_map];exact List.map_congr_left fun x _=>he x
  rw [List.nil_append,e] at ha
  refine ⟨k',H',ha,hst.ext H (Nat.le_refl _) Ext.rfl',fun h=>absurd h (app_nn ha (by simp))⟩
theorem rown33 (k:ByteArray) (n:Nat) (v:ByteArray) (kk:SK) (ks:List ByteArray) (hl:ks.length≤8000000) (H:Heap):W env (.call 33 [.agg [.str k,.int .u64 n,.str v,.sl kk (ks.map eS)]]) H (fun o H'=>Ext H H'∧∃ kk',KOk kk' ks∧o=.val (.agg [.str k,.int .u64 n,.str v,.sl kk' (ks.map eS)])):=by
 have h1:=all_map (enc:=eS) (n:=1) (fun _=>rfl) ks
 obtain ⟨k',H3,ha,hx,hko⟩:=app_nil (enc:=eS) (n:=1) (bytes:=16) (fun _=>rfl) ks (roomS (by omega) (by omega)) (H++[B.cells [.str k,.int .u64 n,.str v,.sl kk (ks.map eS)]]++[B.cells [.str ⟨#[]⟩,.int .u64 0,.str ⟨#[]⟩,.sl .nil []]])
 have c0:H3[H.length]?=some (.cells [.str k,.int .u64 n,.str v,.sl kk (ks.map eS)]):=hx.get (by rw [g_app (by simp),g_tail rfl])
 have c1:H3[H.length+1]?=some (.cells [.str ⟨#[]⟩,.int .u64 0,.str ⟨#[]⟩,.sl .nil []]):=hx.get (g_tail (by simp))
 have l0:=glt c0
 have l1:=glt c1
 have c2:∀ x,(H3.set H.length x)[H.length+1]?=some (.cells [.str ⟨#[]⟩,.int .u64 0,.str ⟨#[]⟩,.sl .nil []]):=fun x=>by rw [g_ne (by omega)];exact c1
 have hxx:Ext H H3:=((Ext.rfl'.app _).app _).trans hx
 refine W.fnI rfl rfl rfl ?_
 simp -implicitDefEqProofs only [ir33,op,ef,cl,sq,reduceIte,q3,q5,q6,q7,q8,q9,j1,j2,j3,S1,S2,S3,h1,ha,c0,c1,c2,l0,l1,List.length_set]
 exact ⟨(hxx.set (by simp) _).set (by simp) _,k',hko,rfl⟩
theorem elems_mut {α:Type} {enc:α→List T} {n n0:Nat} (hn:∀ x,(enc x).length=n) {H:Heap} {t:T} {l:List α} (h:Mut enc n n0 H t l):elemsOf H n t=some (l.map enc):=by
 rcases h with ⟨rfl,rfl⟩ | ⟨b,rfl,hb,_⟩
 ·rfl
 ·have:=elems_sub hn hb 0 l.length (by omega)
  simpa using this
theorem rkept11 {H:Heap} {p:Nat} {tK tL:T} {K:List Kd} {L:List Nm} {G:Nat→Prop} (h:RC H p tK tL K L G) (hl:K.length≤8000000):W env (.call 11 [.ptr p 0]) H (fun o H'=>Ext H H'∧∃ kw,KOk kw K∧o=.val (.sl kw (K.map eKd))):=by
 have hlen:=len_mut h.mK
 refine W.fnI rfl rfl rfl ?_
 simp -implicitDefEqProofs only [ir11,op,ef,cl,sq,reduceIte,q3,q5,q6,q7,q8,q9,j1,j2,j3,S1]
 refine W.loopV [(0,_)] (fun (i:Nat) R H'=>At H' (fun H'=>∃ kw,R 3=.sl kw ((K.take i).map eKd)∧Ext H H'∧Apd H.length H' kw∧KOk kw (K.take i))∧R 4=.int .i64 i∧i≤K.length) (fun i=>K.length-i) 0 ⟨.i ⟨.nil,rfl,Ext.rfl',apd_nil _ _,fun _=>rfl⟩,rfl,Nat.zero_le _⟩ ?_
 rintro i R H1 ⟨⟨kw,g3,hx1,hap,hko⟩,g4,hi⟩
 have hx1:Ext H H1:=hx1
 have h1:=h.ext hx1
 by_cases hlt:i<K.length
 ·obtain ⟨x,hx⟩:=getP hlt
  have hxk:=h.ko x (List.mem_of_getElem? hx)
  obtain ⟨c,hc,ia,_⟩:=mut_n (enc:=eKd) (n:=5) (fun _=>rfl) (by decide) h1.mK hx
  have wsi:=wrap_succ (show i<9223372036854775807 by omega)
  have r0:ldcB 4 (i*5+0) (some (.cells (msC eKd K)))=some [.str x.nm.1,.int .u64 x.nm.2,.str x.value,.sl x.kk (x.keys.map eS)]:=msC_get (enc:=eKd) (n:=5) (fun _=>rfl) hx 0 4 (by decide)
  have r4:ldcB 1 (i*5+4) (some (.cells (msC eKd K)))=some [.int .i64 x.stamp]:=msC_get (enc:=eKd) (n:=5) (fun _=>rfl) hx 4 1 (by decide)
  simp -implicitDefEqProofs only [mkR_nil,mkR_cons,op,ef,cl,sq,reduceIte,q3,q5,q6,q7,q8,q9,j1,j2,j3,S1,h1.hp,hlen,g4,hlt,natOf_nat,ia,hc,r0,r4]
  refine callB_of _ _ _ _ _ _ _ _ (rown33 _ _ _ _ x.keys (by omega) _) ?_
  rintro u H2 ⟨hx2,kk',hkk,hu⟩
  cases hu
  have hx2:Ext H1 H2:=hx2
  have hall:=all_map (enc:=eKd) (n:=5) (fun _=>rfl) (K.take i)
  obtain ⟨k',H5,ha,hap',hst⟩:=app_ok (bytes:=72) ((K.take i).map eKd) [[T.str x.nm.1,.int .u64 x.nm.2,.str x.value,.sl .arg (x.keys.map eS),.int .i64 x.stamp]] (hap.ext hx2) (by have:=(hx1.trans hx2).len;omega) (by simp) (roomT (by simp -implicitDefEqProofs only [List.length_cons,List.length_nil,List.length_map,List.length_take];omega))
  have hnn:=app_nn ha (by simp)
  simp -implicitDefEqProofs only [op,ef,cl,sq,reduceIte,q3,q5,q6,q7,q8,q9,j1,j2,j3,S1] at ha
  have hc2:=hx2.get hc
  simp -implicitDefEqProofs only [mkR_nil,mkR_cons,op,ef,cl,sq,reduceIte,q3,q5,q6,q7,q8,q9,j1,j2,j3,S1,g3,g4,hall,ha,wsi,(h1.ext hx2).hp,hc2,r4]
  refine ⟨i+1,by omega,.i ⟨k',?_,hst.ext H (Nat.le_refl _) (hx1.trans hx2),hap',fun h=>absurd h hnn⟩,rfl,hlt⟩
  rw [take_sn hx,List.map_append]
  simp -implicitDefEqProofs only [List.map_cons,List.map_nil,eKd,hxk.1];rfl
 ·have hie:i=K.length:=by omega
  subst hie
  rw [List.take_length] at g3 hko
  simp -implicitDefEqProofs only [mkR_nil,mkR_cons,op,ef,cl,sq,reduceIte,q3,q5,q6,q7,q8,q9,j1,j2,j3,S1,h1.hp,hlen,g3,g4,hlt]
  exact ⟨hx1,kw,hko,rfl⟩
theorem rlasts14 {H:Heap} {p:Nat} {tK tL:T} {K:List Kd} {L:List Nm} {G:Nat→Prop} (h:RC H p tK tL K L G) (hl:L.length≤8000000):W env (.call 14 [.ptr p 0]) H (fun o H'=>Ext H H'∧∃ kw,KOk kw L∧o=.val (.sl kw (L.map eW))):=by
 obtain ⟨k',H',ha,hx,hko⟩:=app_nil (enc:=eW) (n:=2) (bytes:=24) (fun _=>rfl) L (roomT (by omega)) H
 have he:=elems_mut (enc:=eW) (n:=2) (fun _=>rfl) h.mL
 refine W.fnI rfl rfl rfl ?_
 simp -implicitDefEqProofs only [ir14,op,ef,cl,sq,reduceIte,q3,q5,q6,q7,q8,q9,j1,j2,j3,S1,h.hp,he,ha]
 exact ⟨hx,k',hko,rfl⟩
theorem lastsA2 {b:Bk} {a:Ab} {F:Nat→Prop} {m:Nat} {H:Heap} (h:AtS H b a F m) (hn:m≤8000000) (hlv:∀ k n,a.l k=some n→a.has (k,n)=true):W env (.call 13 [.ptr b.s 0]) H (fun o H'=>Ext H H'∧∃ k l,KOk k l∧LNames a l∧l.length≤m∧o=.val (.sl k ((l.map (lnm a)).map eW))):=by
 obtain ⟨s,sh,hi,rfl,h4,h5⟩:=h
 have hl:s.ls.length≤s.vs.length:=by
  have hnd:s.ls.Nodup:=by
   have:=hi.ndl
   exact (List.pairwise_map.1 this).imp fun {a b} h e=>h (by rw [e])
  have:=nd_le (l:=s.ls) (l':=s.vs.map (·.1)) hnd fun e he=>by
   have h1:=mlook_of hi.ndl he
   have h2:=hlv e.1 e.2 h1
   rw [mem_keys]
   simpa [Ab.has,absS] using h2
  simpa using this
 refine W.use (lastsF24 b s F H sh hi (by omega)) fun o H' ⟨hx,k,l,hko,hu,hp,hpw⟩=>⟨hx,k,l,hko,⟨hpw,fun x=>?_⟩,?_,?_⟩
 ·rw [hp.mem_iff,mem_keys];rfl
 ·rw [hp.length_eq,List.length_map];omega
 ·rw [hu,lastL,List.map_map,List.map_map];rfl
theorem cells_mut {α:Type} {enc:α→List T} {n n0:Nat} {H:Heap} {t:T} {l:List α} (h:Mut enc n n0 H t l):t.cells?=some [t]:=by
 rcases h with ⟨_,rfl⟩ | ⟨c,rfl,_⟩ <;> rfl
theorem RC.setK {H H':Heap} {p:Nat} {tK tL t':T} {K K':List Kd} {L:List Nm} {G:Nat→Prop} (h:RC H p tK tL K L G) (hf:Frm (fun c=>tb tK=some c) H H') (hm:Mut eKd 5 0 H' t' K') (hn:∀ c,tb t'=some c→H.length≤c) (hko:∀ x∈K',x.kk=.arg∧x.keys.length≤1024) :
  H'[p]?=some (.cells [tK,tL])∧Frm G H (H'.set p (.cells [t',tL]))∧∃ G',RC (H'.set p (.cells [t',tL])) p t' tL K' L G'∧Gro G G' H (H'.set p (.cells [t',tL])):=by
 have hp:=hf.get h.hp fun hc=>(h.gK _ hc).2 rfl
 have lp:=glt hp
 have lp0:=glt h.hp
 have f1:Frm (fun c=>c=p) H' (H'.set p (.cells [t',tL])):=(Frm.refl (fun c=>c=p) H').set (.inl rfl) _
 have tK':∀ c,tb t'=some c→c≠p:=fun c hc e=>by have:=hn c hc;omega
 refine ⟨hp,(hf.mono fun c hc=>(h.gK c hc).1).set (.inl h.gp) _,fun c=>c=p∨tb t'=some c∨tb tL=some c,⟨g_eq lp,mut_frm hm f1 tK',mut_frm (mut_frm h.mL hf fun c hc hc'=>h.ne c hc' hc) f1 fun c hc=>(h.gL c hc).2,.inl rfl,fun c hc=>⟨.inr (.inl hc),tK' c hc⟩,fun c hc=>⟨.inr (.inr hc),(h.gL c hc).2⟩,fun c hc hc'=>?_,hko⟩,fun c hc=>?_⟩
 ·have:=hn c hc;have:=glt (mut_blk h.mL hc');omega
 ·rcases hc with rfl | hc | hc
  ·exact .inl h.gp
  ·exact .inr ⟨hn c hc,by rw [List.length_set];exact glt (mut_blk hm hc)⟩
  ·exact .inl (h.gL c hc).1
theorem RC.setL {H H':Heap} {p:Nat} {tK tL t':T} {K:List Kd} {L L':List Nm} {G:Nat→Prop} (h:RC H p tK tL K L G) (hf:Frm (fun c=>tb tL=some c) H H') (hm:Mut eW 2 0 H' t' L') (hn:∀ c,tb t'=some c→H.length≤c) :
  H'[p]?=some (.cells [tK,tL])∧Frm G H (H'.set p (.cells [tK,t']))∧∃ G',RC (H'.set p (.cells [tK,t'])) p tK t' K L' G'∧Gro G G' H (H'.set p (.cells [tK,t'])):=by
 have hp:=hf.get h.hp fun hc=>(h.gL _ hc).2 rfl
 have lp:=glt hp
 have lp0:=glt h.hp
 have f1:Frm (fun c=>c=p) H' (H'.set p (.cells [tK,t'])):=(Frm.refl (fun c=>c=p) H').set (.inl rfl) _
 have tK':∀ c,tb t'=some c→c≠p:=fun c hc e=>by have:=hn c hc;omega
 refine ⟨hp,(hf.mono fun c hc=>(h.gL c hc).1).set (.inl h.gp) _,fun c=>c=p∨tb tK=some c∨tb t'=some c,⟨g_eq lp,mut_frm (mut_frm h.mK hf fun c hc hc'=>h.ne c hc hc') f1 fun c hc=>(h.gK c hc).2,mut_frm hm f1 tK',.inl rfl,fun c hc=>⟨.inr (.inl hc),(h.gK c hc).2⟩,fun c hc=>⟨.inr (.inr hc),tK' c hc⟩,fun c hc hc'=>?_,h.ko⟩,fun c hc=>?_⟩
 ·have:=hn c hc';have:=glt (mut_blk h.mK hc);omega
 ·rcases hc with rfl | hc | hc
  ·exact .inl h.gp
  ·exact .inl (h.gK c hc).1
  ·exact .inr ⟨hn c hc,by rw [List.length_set];exact glt (mut_blk hm hc)⟩
def insK (K:List Kd) (x:Kd):List Kd:=K.take (fiK K x.nm)++x :: K.drop (fiK K x.nm)
theorem drop_ge {α:Type} {R:α→α→Prop} {l:List α} {i:Nat} (hs:l.Pairwise R) {y z:α} (hy:l[i]?=some y) (hz:z∈l.drop i):z=y∨R y z:=by
 rw [drop_at hy] at hz
 rcases List.mem_cons.1 hz with h | h
 ·exact .inl h
 ·have:=hs.sublist (List.drop_sublist i l)
  rw [drop_at hy,List.pairwise_cons] at this
  exact .inr (this.1 z h)
theorem insK_up {K:List Kd} (hs:keptUp K) {x:Kd} (hno:x.nm∉K.map Kd.nm):keptUp (insK K x):=by
 have ht:∀ y∈K.take (fiK K x.nm),ltM y.nm x.nm=true:=fun y hy=>by
  obtain ⟨j,hj,e⟩:=List.getElem_of_mem hy
  rw [List.length_take] at hj
  rw [List.getElem_take] at e
  unfold fiK at hj
  have:=tw_lt (p:=fun x':Kd=>ltM x'.nm x.nm) (l:=K) (j:=j) (x:=y) (by omega) (by rw [List.getElem?_eq_getElem (by omega),e])
  exact this
 have hd:∀ z∈K.drop (fiK K x.nm),ltM x.nm z.nm=true:=fun z hz=>by
  by_cases hlt:fiK K x.nm<K.length
  ·obtain ⟨y,hy⟩:=getP hlt
   have hy':=hy
   unfold fiK at hy'
   have h1:(fun x':Kd=>ltM x'.nm x.nm) y=false:=tw_at (p:=fun x':Kd=>ltM x'.nm x.nm) hy'
   have h2:ltM x.nm y.nm=true:=by
    cases e:ltM x.nm y.nm with
    | true=>rfl
    | false=>exact absurd (List.mem_map.2 ⟨y,List.mem_of_getElem? hy,ltM_tri h1 e⟩) hno
   rcases drop_ge hs hy hz with rfl | h
   ·exact h2
   ·exact ltM_trans h2 h
  ·rw [List.drop_eq_nil_of_le (by omega)] at hz;cases hz
 refine List.pairwise_append.2 ⟨hs.sublist (List.take_sublist _ _),List.pairwise_cons.2 ⟨hd,hs.sublist (List.drop_sublist _ _)⟩,fun y hy z hz=>?_⟩
 rcases List.mem_cons.1 hz with rfl | hz
 ·exact ht y hy
 ·exact ltM_trans (ht y hy) (hd z hz)
theorem mlook_ap {α β:Type} [DecidableEq α] (A B:List (α × β)) (k:α):mlook (A++B) k=(mlook A k).or (mlook B k):=by
 induction A with
 | nil=>simp [mlook_nil]
 | cons e A ih =>
  rw [List.cons_append,mlook_cons,mlook_cons,ih]
  split <;> rfl
theorem mlook_ins {α β:Type} [DecidableEq α] (A B:List (α × β)) (e:α × β) (h:e.1∉A.map (·.1)) (k:α):mlook (A++e :: B) k=if k=e.1 then some e.2 else mlook (A++B) k:=by
 rw [mlook_ap,mlook_ap,mlook_cons]
 by_cases hk:k=e.1
 ·subst hk
  rw [mlook_none.2 h];simp
 ·simp [hk]
theorem mlook_cut {α β:Type} [DecidableEq α] (A B:List (α × β)) (e:α × β) (h:e.1∉(A++B).map (·.1)) (k:α):mlook (A++B) k=if k=e.1 then none else mlook (A++e :: B) k:=by
 rw [mlook_ins _ _ _ (fun hh=>h (by rw [List.map_append];exact List.mem_append_left _ hh))]
 by_cases hk:k=e.1
 ·subst hk;rw [mlook_none.2 h];simp
 ·simp [hk]
theorem kdL_app (A B:List Kd):kdL (A++B)=kdL A++kdL B:=List.map_append
theorem kdL_cons (x:Kd) (B:List Kd):kdL (x :: B)=(x.nm,x.vd) :: kdL B:=rfl
theorem insK_look {K:List Kd} {x:Kd} (hno:x.nm∉K.map Kd.nm) (m:Nm):mlook (kdL (insK K x)) m=if m=x.nm then some x.vd else mlook (kdL K) m:=by
 rw [insK,kdL_app,kdL_cons,mlook_ins _ _ _ (fun h=>hno (by
  rw [kdL_key] at h
  obtain ⟨y,hy,e⟩:=List.mem_map.1 h
  exact List.mem_map.2 ⟨y,List.mem_of_mem_take hy,e⟩)),← kdL_app,List.take_append_drop]
theorem insK_len (K:List Kd) (x:Kd):(insK K x).length=K.length+1:=by
 have:=tw_le (fun x'=>ltM x'.nm x.nm) K
 simp -implicitDefEqProofs only [insK,List.length_append,List.length_take,List.length_cons,List.length_drop,fiK];omega
theorem sll_lo {α:Type} {enc:α→List T} {n n0:Nat} (hn:∀ x,(enc x).length=n) {H:Heap} {t:T} {l:List α} (h:Mut enc n n0 H t l) {i:Nat} (hi:i≤l.length):∃ t',(∀ R Hx a b,(X.r a).ev R=t→(X.r b).ev R=.int .i64 i→evop R Hx (.sll n (.r a) none (some (.r b)) none)=some (t',Hx))∧∀ Hx,Mut enc n n0 Hx t l→elemsOf Hx n t'=some ((l.take i).map enc):=by
 rcases h with ⟨rfl,rfl⟩ | ⟨c,rfl,hc,_⟩
 ·have:i=0:=by simpa using hi
  subst this
  refine ⟨.sl .nil [],fun R Hx a b ha hb=>?_,fun Hx _=>rfl⟩
  simp -implicitDefEqProofs only [evop,ha,bnd,hb,natOf_nat]
  simp
  rfl
 ·refine ⟨.msl c 0 i n,fun R Hx a b ha hb=>?_,fun Hx hx=>?_⟩
  ·simp -implicitDefEqProofs only [evop,ha,bnd,hb,natOf_nat]
   rw [if_pos ⟨trivial,Nat.zero_le _,hi⟩]
   by_cases h0:0=i
   ·subst h0;rfl
   ·rw [if_neg h0];simp
  ·have:=elems_sub hn (mut_blk hx (c:=c) rfl) 0 i (by omega)
   simpa using this
theorem sll_hi {α:Type} {enc:α→List T} {n n0:Nat} (hn:∀ x,(enc x).length=n) {H:Heap} {t:T} {l:List α} (h:Mut enc n n0 H t l) {i:Nat} (hi:i≤l.length):∃ t',(∀ R Hx a b,(X.r a).ev R=t→(X.r b).ev R=.int .i64 i→evop R Hx (.sll n (.r a) (some (.r b)) none none)=some (t',Hx))∧∀ Hx,Mut enc n n0 Hx t l→elemsOf Hx n t'=some ((l.drop i).map enc):=by
 rcases h with ⟨rfl,rfl⟩ | ⟨c,rfl,hc,_⟩
 ·have:i=0:=by simpa using hi
  subst this
  refine ⟨.sl .nil [],fun R Hx a b ha hb=>?_,fun Hx _=>rfl⟩
  simp -implicitDefEqProofs only [evop,ha,bnd,hb,natOf_nat]
  simp
  rfl
 ·refine ⟨if i=l.length then (if i=0 then .msl c 0 0 n else .sl .arg []) else .msl c (0+i*n) (l.length-i) n,fun R Hx a b ha hb=>?_,fun Hx hx=>?_⟩
  ·simp -implicitDefEqProofs only [evop,ha,bnd,hb,natOf_nat]
   rw [if_pos ⟨trivial,hi,Nat.le_refl _⟩]
  ·have h1:=elems_sub hn (mut_blk hx (c:=c) rfl) i (l.length-i) (by omega)
   by_cases e:i=l.length
   ·rw [if_pos e]
    subst e
    by_cases e2:l.length=0
    ·rw [if_pos e2]
     have:=elems_sub hn (mut_blk hx (c:=c) rfl) 0 0 (by omega)
     simpa using this
    ·rw [if_neg e2];simp [elemsOf]
   ·rw [if_neg e,Nat.zero_add,h1,List.take_of_length_le (by rw [List.length_drop];omega)]
structure Ins {α:Type} (enc:α→List T) (n bytes:Nat) (H:Heap) (t:T) (l:List α) (i:Nat) (t1:T) (H1:Heap) (ta tz:T):Prop where
 lo:∀ R Hx a b,(X.r a).ev R=t→(X.r b).ev R=.int .i64 i→evop R Hx (.sll n (.r a) none (some (.r b)) none)=some (ta,Hx)
 hi:∀ R Hx a b,(X.r a).ev R=t→(X.r b).ev R=.int .i64 i→evop R Hx (.sll n (.r a) (some (.r b)) none none)=some (tz,Hx)
 ea:elemsOf H n ta=some ((l.take i).map enc)
 a1:appM H n bytes (.sl .nil []) ((l.take i).map enc)=some (t1,H1)
 m1:Mut enc n 0 H1 t1 (l.take i)
 x1:Ext H H1
 b1:∀ c,tb t1=some c→H.length≤c
 ez:∀ Hx,Mut enc n 0 Hx t l→elemsOf Hx n tz=some ((l.drop i).map enc)
theorem ins_mk {α:Type} {enc:α→List T} {n bytes:Nat} (hn:∀ x,(enc x).length=n) {H:Heap} {t:T} {l:List α} (h:Mut enc n 0 H t l) {i:Nat} (hi:i≤l.length) (hr:∀ j,j≤l.length+1→roomOk j bytes=true):∃ t1 H1 ta tz,Ins enc n bytes H t l i t1 H1 ta tz:=by
 obtain ⟨ta,lo,ea⟩:=sll_lo hn h hi
 obtain ⟨tz,hi',ez⟩:=sll_hi hn h hi
 obtain ⟨t1,H1,a1,m1,f1,b1⟩:=appM_any hn (bytes:=bytes) (l.take i) (mut_nil enc n 0 H) (hr _ (by simp;omega))
 exact ⟨t1,H1,ta,tz,lo,hi',ea H h,a1,by simpa using m1,frm_ext (f1.mono fun c hc=>by cases hc),fun c hc=>(b1 c hc).elim (fun h=>by cases h.1) id,ez⟩
theorem app_own {α:Type} {enc:α→List T} {n bytes:Nat} (hn:∀ x,(enc x).length=n) {H0 H:Heap} {t:T} {l:List α} (h:Mut enc n 0 H t l) (hx:Ext H0 H) (hb:∀ c,tb t=some c→H0.length≤c) (new:List α) (hr:roomOk (l.length+new.length) bytes=true) :
  ∃ t' H',appM H n bytes t (new.map enc)=some (t',H')∧Mut enc n 0 H' t' (l++new)∧Ext H0 H'∧∀ c,tb t'=some c→H0.length≤c:=by
 obtain ⟨t',H',ha,hm,hf,hb'⟩:=appM_any hn (bytes:=bytes) new h hr
 have:=hx.len
 refine ⟨t',H',ha,hm,frm_ext ((ext_frm (F:=fun _=>False) hx).more hf hb),fun c hc=>?_⟩
 rcases hb' c hc with h | h
 ·exact hb c h.1
 ·omega
theorem rmay81 (n:Nat) (k k':SK) (l:List (ByteArray × ByteArray)) (ks:List ByteArray) (H:Heap) (hl:l.length≤8000000) (hks:ks.length≤8000000) :
  W env (.call 81 [.int .u64 n,.sl k (l.map eP),.sl k' (ks.map eS)]) H (fun o H'=>Ext H H'∧∃ b,o=.val (.bool b)∧(b=true↔MayP n l ks)):=by
 refine W.fnI rfl rfl rfl ?_
 have no:¬ MayP n l ks→((false:Bool)=true↔MayP n l ks):=fun h=>⟨fun e=>(by cases e),fun e=>absurd e h⟩
 simp -implicitDefEqProofs only [ir81,op,ef,cl,sq,reduceIte,q3,q5,q6,q7,q8,q9,j1,j2,j3,S1]
 refine callB_of _ _ _ _ _ _ _ _ (rid68 n _) ?_
 rintro u H2 ⟨hu,rfl⟩
 cases hu
 by_cases hn:n<65536
 ·have hd:decide (65536≤n)=false:=decide_eq_false (by omega)
  simp -implicitDefEqProofs only [op,ef,cl,sq,reduceIte,q3,q5,q6,q7,q8,q9,j1,j2,j3,S1,hd]
  exact ⟨Ext.rfl',false,rfl,no fun h=>by have:=h.1;omega⟩
 have hd:decide (65536≤n)=true:=decide_eq_true (by omega)
 simp -implicitDefEqProofs only [op,ef,cl,sq,reduceIte,q3,q5,q6,q7,q8,q9,j1,j2,j3,S1,hd]
 refine callB_of _ _ _ _ _ _ _ _ (rwhole69 k' ks _ (by omega)) ?_
 rintro u H2 ⟨hu,rfl⟩
 cases hu
 cases hg:goodB ks
 ·simp -implicitDefEqProofs only [op,ef,cl,sq,reduceIte,q3,q5,q6,q7,q8,q9,j1,j2,j3,S1]
  exact ⟨Ext.rfl',false,rfl,no fun h=>by have:=goodB_iff.2 h.2.1;rw [hg] at this;cases this⟩
 have hgk:=goodB_iff.1 hg
 by_cases hl1:l.length<1
 ·simp -implicitDefEqProofs only [op,ef,cl,sq,reduceIte,q3,q5,q6,q7,q8,q9,j1,j2,j3,S1,List.length_map,hl1]
  exact ⟨Ext.rfl',false,rfl,no fun h=>by have:=h.2.2.1;omega⟩
 simp -implicitDefEqProofs only [op,ef,cl,sq,reduceIte,q3,q5,q6,q7,q8,q9,j1,j2,j3,S1,List.length_map,hl1]
 refine W.loopV [(1,_),(2,_)] (fun (i:Nat) R H'=>At H' (fun H'=>Ext H2 H')∧R 7=.int .i64 i∧i≤l.length∧∀ j,j<i→OkPair l ks j) (fun i=>l.length-i) 0 ⟨.i Ext.rfl',rfl,Nat.zero_le _,fun j hj=>by omega⟩ ?_
 rintro i R H3 ⟨hx,g7,hi,hok⟩
 have hx:Ext H2 H3:=hx
 by_cases hlt:i<l.length
 ·obtain ⟨p,hp⟩:=getP hlt
  have wsi:=wrap_succ (show i<9223372036854775807 by omega)
  have ip:=iadX (e:=eP) (n:=2) (fun _=>rfl) (by decide) (k:=k) hp
  have bad:¬ OkPair l ks i→((false:Bool)=true↔MayP n l ks):=fun hb=>no fun h=>hb (h.2.2.2 i hlt)
  obtain ⟨H4,hH4⟩:∃ H4,H4=H3++[B.cells [T.str p.1,.str p.2]]:=⟨_,rfl⟩
  have hx4:Ext H3 H4:=⟨_,hH4⟩
  have c0:H4[H3.length]?=some (.cells [T.str p.1,.str p.2]):=by rw [hH4];exact g_tail rfl
  have ld2:∀ Hx,ldc Hx 2 (.iptr (eP p))=some [.str p.1,.str p.2]:=fun _=>rfl
  simp -implicitDefEqProofs only [mkR_nil,mkR_cons,op,ef,cl,sq,reduceIte,q3,q5,q6,q7,q8,q9,j1,j2,j3,S1,S2,S3,List.length_map,g7,hlt,natOf_nat,ip,ld2]
  rw [← hH4]
  refine callB_of _ _ _ _ _ _ _ _ (rhas70 k' ks p.1 _ (by omega)) ?_
  rintro u H5 ⟨hu,rfl⟩
  cases hu
  cases hm:memB ks p.1
  ·simp -implicitDefEqProofs only [mkR_nil,mkR_cons,op,ef,cl,sq,reduceIte,q3,q5,q6,q7,q8,q9,j1,j2,j3,S1,c0]
   exact ⟨hx.trans hx4,false,rfl,bad fun ho=>memB_no.1 hm (ho p hp).2.1⟩
  by_cases hsz:65535<p.2.size
  ·simp -implicitDefEqProofs only [mkR_nil,mkR_cons,op,ef,cl,sq,reduceIte,q3,q5,q6,q7,q8,q9,j1,j2,j3,S1,c0,hsz]
   exact ⟨hx.trans hx4,false,rfl,bad fun ho=>by have:=(ho p hp).2.2;omega⟩
  have fin:(0<i→∀ q,l[i-1]?=some q→strLt q.1 p.1=true)→∀ j,j<i+1→OkPair l ks j:=fun hs j hj=>by
   by_cases e:j=i
   ·subst e;intro p' hp';rw [hp] at hp';cases hp'
    exact ⟨hs,memB_iff.1 hm,by omega⟩
   ·exact hok j (by omega)
  by_cases hi0:0<i
  ·obtain ⟨q,hq⟩:=getP (l:=l) (i:=i-1) (by omega)
   have wp:=wrap_pred (show i<9223372036854775807 by omega) hi0
   have iq:=iadX (e:=eP) (n:=2) (fun _=>rfl) (by decide) (k:=k) hq
   cases hc:strLt q.1 p.1
   ·simp -implicitDefEqProofs only [mkR_nil,mkR_cons,op,ef,cl,sq,reduceIte,q3,q5,q6,q7,q8,q9,j1,j2,j3,S1,c0,hsz,g7,hi0,wp,natOf_nat,iq,eP,hc]
    exact ⟨hx.trans hx4,false,rfl,bad fun ho=>by have:=(ho p hp).1 hi0 q hq;rw [hc] at this;cases this⟩
   ·simp -implicitDefEqProofs only [mkR_nil,mkR_cons,op,ef,cl,sq,reduceIte,q3,q5,q6,q7,q8,q9,j1,j2,j3,S1,c0,hsz,g7,hi0,wp,natOf_nat,iq,eP,hc,wsi]
    exact ⟨i+1,by omega,.i (hx.trans hx4),rfl,hlt,fin fun _ q' hq'=>by rw [hq] at hq';cases hq';exact hc⟩
  ·simp -implicitDefEqProofs only [mkR_nil,mkR_cons,op,ef,cl,sq,reduceIte,q3,q5,q6,q7,q8,q9,j1,j2,j3,S1,c0,hsz,g7,hi0,wsi]
   exact ⟨i+1,by omega,.i (hx.trans hx4),rfl,hlt,fin fun h=>absurd h hi0⟩
 ·have hie:i=l.length:=by omega
  subst hie
  simp -implicitDefEqProofs only [mkR_nil,mkR_cons,op,ef,cl,sq,reduceIte,q3,q5,q6,q7,q8,q9,j1,j2,j3,S1,List.length_map,g7,hlt]
  exact ⟨hx,true,rfl,⟨fun _=>⟨by omega,hgk,by omega,hok⟩,fun _=>rfl⟩⟩
theorem put_sn {a:Ab} {n:Nat} {l:List (ByteArray × ByteArray)} {ks:List ByteArray} {now:Int} {i:Nat} {p:ByteArray × ByteArray} (hp:l[i]?=some p) (hnd:(l.map (·.1)).Nodup) :
  a.put n (l.take (i+1)) ks now=⟨fun m=>if m=(p.1,n)∧a.has m=false then some ⟨p.2,ks,if n<a.last p.1 then now else -1⟩ else (a.put n (l.take i) ks now).v m,a.l⟩:=by
 refine ab_ext (fun m=>?_) fun k=>rfl
 have hno:p.1∉(l.take i).map (·.1):=fun hh=>by
  have h2:=hnd
  rw [← List.take_append_drop i l,drop_at hp,List.map_append,List.nodup_append] at h2
  exact h2.2.2 _ hh p.1 (by simp) rfl
 simp -implicitDefEqProofs only [put_v,take_sn hp,mlook_ap,mlook_cons,mlook_nil]
 cases hv:a.v m with
 | some x=>simp [Ab.has,hv]
 | none =>
  have hh:a.has m=false:=by simp [Ab.has,hv]
  by_cases e:m=(p.1,n)
  ·subst e
   simp -implicitDefEqProofs only [hh,mlook_none.2 hno];simp
  ·simp -implicitDefEqProofs only [e,false_and,if_false]
   by_cases e2:m.2=n
   ·have e3:m.1≠p.1:=fun h=>e (Prod.ext h e2)
    simp [e2,e3]
   ·simp [e2]
theorem fresh_sn {a:Ab} {n:Nat} {l:List (ByteArray × ByteArray)} {i:Nat} {p:ByteArray × ByteArray} (hp:l[i]?=some p):a.fresh n (l.take (i+1))=(a.fresh n (l.take i)||!a.has (p.1,n)):=by
 simp [Ab.fresh,take_sn hp,List.any_append]
theorem ins_fin {α:Type} {l:List α} {i:Nat} {x:α}:l.take i++[x]++l.drop i=l.take i++x :: l.drop i:=by simp
structure PutR (H H':Heap) (p:Nat) (tL:T) (K:List Kd) (L:List Nm) (G:Nat→Prop) (n:Nat) (l:List (ByteArray × ByteArray)) (ks:List ByteArray) (now:Int) (tK':T) (K':List Kd) (G':Nat→Prop):Prop where
 rc:RC H' p tK' tL K' L G'
 up:keptUp K'
 ab:ldAb K' L=(ldAb K L).put n l ks now
 len:K'.length≤K.length+l.length
 frm:Frm G H H'
 gro:Gro G G' H H'
theorem Gro.refl (G:Nat→Prop) (H H':Heap):Gro G G H H':=fun _ h=>.inl h
theorem PutR.ext {H H1 H2:Heap} {p:Nat} {tL:T} {K:List Kd} {L:List Nm} {G:Nat→Prop} {n:Nat} {l:List (ByteArray × ByteArray)} {ks:List ByteArray} {now:Int} {tK':T} {K':List Kd} {G':Nat→Prop} (h:PutR H H1 p tL K L G n l ks now tK' K' G') (hx:Ext H1 H2):PutR H H2 p tL K L G n l ks now tK' K' G' :=
 ⟨h.rc.ext hx,h.up,h.ab,h.len,h.frm.ext hx,fun c hc=>(h.gro c hc).imp id fun h=>⟨h.1,by have:=hx.len;omega⟩⟩
set_option maxHeartbeats 2000000 in
theorem rput51 {H:Heap} {p:Nat} {tK tL:T} {K:List Kd} {L:List Nm} {G:Nat→Prop} (h:RC H p tK tL K L G) (hs:keptUp K) (n:Nat) (k k':SK) (l:List (ByteArray × ByteArray)) (ks:List ByteArray) (now:Int) (hK:K.length+l.length≤8000000) (hL:L.length≤8000000) (hm:MayP n l ks) (ht:TickOk now) :
  W env (.call 51 [.ptr p 0,.int .u64 n,.sl k (l.map eP),.sl k' (ks.map eS),.int .i64 now]) H (fun o H'=>o=.val (.tup [.bool ((ldAb K L).fresh n l),.int .i64 0])∧∃ tK' K' G',PutR H H' p tL K L G n l ks now tK' K' G'):=by
 have hgk:=hm.2.1.2.2
 have hnd:=may_nd hm
 refine W.fnI rfl rfl rfl ?_
 simp -implicitDefEqProofs only [ir51,op,ef,cl,sq,reduceIte,q3,q5,q6,q7,q8,q9,j1,j2,j3,S1]
 refine callB_of _ _ _ _ _ _ _ _ (rmay81 n k k' l ks _ (by omega) (by omega)) ?_
 rintro u H1 ⟨hx1,bb,hu,hb⟩
 cases hu
 have hbt:=hb.2 hm
 subst hbt
 simp -implicitDefEqProofs only [op,ef,cl,sq,reduceIte,q3,q5,q6,q7,q8,q9,j1,j2,j3,S1]
 refine callB_of _ _ _ _ _ _ _ _ (rtick71 now _) ?_
 rintro u H2 ⟨hu,rfl⟩
 cases hu
 have htk:(decide (0≤now)&&decide (now≤1099511627776))=true:=by simp [ht.1,ht.2]
 simp -implicitDefEqProofs only [op,ef,cl,sq,reduceIte,q3,q5,q6,q7,q8,q9,j1,j2,j3,S1,htk]
 refine W.loopV [(0,_),(1,_),(2,_),(3,_),(4,_)] (fun (i:Nat) R H'=>At H' (fun H'=>∃ tK' K' G',PutR H H' p tL K L G n (l.take i) ks now tK' K' G')∧R 12=.bool ((ldAb K L).fresh n (l.take i))∧R 13=.int .i64 i∧i≤l.length) (fun i=>l.length-i) 0
  ⟨.i ⟨tK,K,G,h.ext hx1,hs,by rw [List.take_zero,put_0],by simp,ext_frm hx1,Gro.refl _ _ _⟩,rfl,rfl,Nat.zero_le _⟩ ?_
 rintro i R H3 ⟨⟨tK',K',G',pr⟩,g12,g13,hi⟩
 by_cases hlt:i<l.length
 rotate_left
 ·have hie:i=l.length:=by omega
  subst hie
  rw [List.take_length] at g12 pr
  simp -implicitDefEqProofs only [mkR_nil,mkR_cons,op,ef,cl,sq,reduceIte,q3,q5,q6,q7,q8,q9,j1,j2,j3,S1,List.length_map,g12,g13,hlt]
  exact ⟨tK',K',G',pr⟩
 obtain ⟨q,hq⟩:=getP hlt
 have wsi:=wrap_succ (show i<9223372036854775807 by omega)
 have iq:=iadX (e:=eP) (n:=2) (fun _=>rfl) (by decide) (k:=k) hq
 have h3:=pr.rc
 have hkl:K'.length≤K.length+i:=by have:=pr.len;rw [List.length_take] at this;omega
 simp -implicitDefEqProofs only [mkR_nil,mkR_cons,op,ef,cl,sq,reduceIte,q3,q5,q6,q7,q8,q9,j1,j2,j3,S1,List.length_map,g13,hlt,natOf_nat,iq,eP]
 refine callB_of _ _ _ _ _ _ _ _ (rfind34 h3 pr.up (by omega) (q.1,n)) ?_
 rintro u H4 ⟨hx4,hu⟩
 cases hu
 have hx4:Ext H3 H4:=hx4
 have hno0:q.1∉(l.take i).map (·.1):=fun hh=>by
  have h2:=hnd
  rw [← List.take_append_drop i l,drop_at hq,List.map_append,List.nodup_append] at h2
  exact h2.2.2 _ hh q.1 (by simp) rfl
 have hmem:memN (K'.map Kd.nm) (q.1,n)=(ldAb K L).has (q.1,n):=by
  have e1:memN (K'.map Kd.nm) (q.1,n)=(ldAb K' L).has (q.1,n):=by
   rw [Bool.eq_iff_iff,memN_iff,← kdL_key,mem_keys];rfl
  rw [e1,pr.ab,has_put,mlook_none.2 hno0];simp
 rw [hmem]
 cases hh:(ldAb K L).has (q.1,n)
 rotate_left
 ·have hsn:(ldAb K L).put n (l.take (i+1)) ks now=(ldAb K L).put n (l.take i) ks now:=by
   rw [put_sn hq hnd]
   refine ab_ext (fun m=>?_) fun _=>rfl
   simp only
   rw [if_neg]
   rintro ⟨rfl,hf⟩
   rw [hh] at hf;cases hf
  have hfr:=fresh_sn (a:=ldAb K L) (n:=n) hq
  rw [hh,Bool.not_true,Bool.or_false] at hfr
  simp -implicitDefEqProofs only [mkR_nil,mkR_cons,op,ef,cl,sq,reduceIte,q3,q5,q6,q7,q8,q9,j1,j2,j3,S1,g12,g13,wsi]
  refine ⟨i+1,by omega,.i ⟨tK',K',G',?_⟩,by rw [hfr],rfl,hlt⟩
  have p4:=pr.ext hx4
  exact ⟨p4.rc,p4.up,by rw [p4.ab,hsn],by have:=p4.len;rw [List.length_take] at this ⊢;omega,p4.frm,p4.gro⟩
 obtain ⟨at_,hat⟩:∃ at_,at_=fiK K' (q.1,n):=⟨_,rfl⟩
 have hale:at_≤K'.length:=by rw [hat];exact tw_le _ _
 have h4:=h3.ext hx4
 obtain ⟨kk,H5,ha5,hx5,hkk⟩:=app_nil (enc:=eS) (n:=1) (bytes:=16) (fun _=>rfl) ks (roomS (by omega) (by omega)) (H4++[B.cells [.str ⟨#[]⟩,.int .u64 0,.str ⟨#[]⟩,.sl .nil [],.int .i64 0]])
 have hall:=all_map (enc:=eS) (n:=1) (fun _=>rfl) ks
 have c5:H5[H4.length]?=some (.cells [.str ⟨#[]⟩,.int .u64 0,.str ⟨#[]⟩,.sl .nil [],.int .i64 0]):=hx5.get (g_tail rfl)
 have l5:=glt c5
 have hx45:Ext H4 H5:=(Ext.rfl'.app _).trans hx5
 rw [← hat]
 simp -implicitDefEqProofs only [mkR_nil,mkR_cons,op,ef,cl,sq,reduceIte,q3,q5,q6,q7,q8,q9,j1,j2,j3,S1,S2,S3,g13,natOf_nat,iq,eP,hall,ha5,c5,l5]
 obtain ⟨H6,hH6⟩:∃ H6,H6=H5.set H4.length (B.cells [.str q.1,.int .u64 n,.str q.2,.sl kk (ks.map eS),.int .i64 (-1)]):=⟨_,rfl⟩
 have hx46:Ext H4 H6:=by rw [hH6];exact hx45.set (Nat.le_refl _) _
 have c6:H6[H4.length]?=some (.cells [.str q.1,.int .u64 n,.str q.2,.sl kk (ks.map eS),.int .i64 (-1)]):=by rw [hH6];exact g_eq l5
 rw [← hH6]
 refine callB_of _ _ _ _ _ _ _ _ (rlast56 (h4.ext hx46) hL q.1) ?_
 rintro u H7 ⟨hu,rfl⟩
 cases hu
 have hlast:(ldAb K' L).last q.1=(ldAb K L).last q.1:=rfl
 rw [hlast]
 simp -implicitDefEqProofs only [mkR_nil,mkR_cons,op,ef,cl,sq,reduceIte,q3,q5,q6,q7,q8,q9,j1,j2,j3,S1]
 refine condC_cut [(0,_),(1,_),(2,_),(3,_),(4,_),(12,_),(13,_),(14,_),(16,_)] (fun R' H'=>At H' (fun H'=>Ext H4 H'∧H'[H4.length]?=some (.cells [.str q.1,.int .u64 n,.str q.2,.sl kk (ks.map eS),.int .i64 (if n<(ldAb K L).last q.1 then now else -1)]))) ?_ ?_
 ·have l6:=glt c6
  by_cases hl2:n<(ldAb K L).last q.1
  ·simp -implicitDefEqProofs only [mkR_nil,mkR_cons,op,ef,cl,sq,reduceIte,q3,q5,q6,q7,q8,q9,j1,j2,j3,S1,hl2,c6,l6,normO_n]
   exact .i ⟨hx46.set (Nat.le_refl _) _,g_eq l6⟩
  ·simp -implicitDefEqProofs only [mkR_nil,mkR_cons,op,ef,cl,sq,reduceIte,q3,q5,q6,q7,q8,q9,j1,j2,j3,S1,hl2,normO_n]
   exact .i ⟨hx46,c6⟩
 rintro R' H8 ⟨hx8,c8⟩
 have hx8:Ext H4 H8:=hx8
 have h8:=h4.ext hx8
 obtain ⟨t1,H9,ta,tz,I⟩:=ins_mk (enc:=eKd) (n:=5) (bytes:=72) (fun _=>rfl) h8.mK hale (fun j hj=>roomT (by omega))
 obtain ⟨x,hx⟩:∃ x:Kd,x=⟨q.1,n,q.2,.arg,ks,if n<(ldAb K L).last q.1 then now else -1⟩:=⟨_,rfl⟩
 have lt1:(K'.take at_).length=at_:=by rw [List.length_take];omega
 obtain ⟨t2,H10,a2,m2,x2,b2⟩:=app_own (enc:=eKd) (n:=5) (bytes:=72) (fun _=>rfl) I.m1 I.x1 I.b1 [x] (roomT (by rw [lt1,List.length_singleton];omega))
 obtain ⟨t3,H11,a3,m3,x3,b3⟩:=app_own (enc:=eKd) (n:=5) (bytes:=72) (fun _=>rfl) m2 x2 b2 (K'.drop at_) (roomT (by rw [List.length_append,lt1,List.length_singleton,List.length_drop];omega))
 have e2:=(h8.ext x2).hp
 have ez:=I.ez H10 (h8.ext x2).mK
 have c9:=I.x1.get c8
 rw [ins_fin] at m3
 have hx3:Ext H3 H8:=hx4.trans hx8
 obtain ⟨hp11,frm11,G2,rc11,gro11⟩:=h3.setK (ext_frm (hx3.trans x3)) m3 (fun c hc=>by have:=b3 c hc;have:=hx3.len;omega) (fun y hy=>by
  have hy:y∈K'.take at_++x :: K'.drop at_:=hy
  rcases List.mem_append.1 hy with hy | hy
  ·exact h3.ko y (List.mem_of_mem_take hy)
  ·rcases List.mem_cons.1 hy with hy | hy
   ·rw [hy,hx];exact ⟨rfl,hgk⟩
   ·exact h3.ko y (List.mem_of_mem_drop hy))
 have l11:=glt hp11
 have hins:K'.take at_++x :: K'.drop at_=insK K' x:=by rw [insK,hat,hx];rfl
 have hnm:x.nm=(q.1,n):=by rw [hx];rfl
 have hvd:x.vd=⟨q.2,ks,if n<(ldAb K L).last q.1 then now else -1⟩:=by rw [hx];rfl
 have hno:x.nm∉K'.map Kd.nm:=fun hh2=>by
  rw [hnm,← memN_iff,hmem,hh] at hh2;cases hh2
 have hab:ldAb (insK K' x) L=(ldAb K L).put n (l.take (i+1)) ks now:=by
  rw [put_sn hq hnd]
  refine ab_ext (fun m=>?_) fun _=>rfl
  have e1:(ldAb K' L).v m=((ldAb K L).put n (l.take i) ks now).v m:=by rw [pr.ab]
  show mlook (kdL (insK K' x)) m=_
  rw [insK_look hno,hnm,hvd]
  simp only
  rw [← e1]
  by_cases e:m=(q.1,n)
  ·subst e;simp -implicitDefEqProofs only [hh,if_true,and_self]
  ·simp -implicitDefEqProofs only [e,if_false,false_and];rfl
 have hlen:=insK_len K' x
 have fgt0:fgt (.sl .nil [])=.sl .nil []:=rfl
 rw [hins] at rc11
 have hfr:=fresh_sn (a:=ldAb K L) (n:=n) hq
 rw [hh,Bool.not_false,Bool.or_true] at hfr
 simp -implicitDefEqProofs only [hx,eKd,List.map_cons,List.map_nil] at a2
 simp -implicitDefEqProofs only [mkR_nil,mkR_cons,op,ef,cl,sq,reduceIte,q3,q5,q6,q7,q8,q9,j1,j2,j3,S1,g13,h8.hp,↓I.lo,I.ea,fgt0,I.a1,c9,fgt_mut I.m1,a2,e2,↓I.hi,ez,fgt_mut m2,a3,hp11,l11,cells_mut m3,wsi]
 exact ⟨i+1,by omega,.i ⟨t3,_,G2,rc11,insK_up pr.up hno,hab,by rw [hlen,List.length_take];have:=pr.len;rw [List.length_take] at this;omega,pr.frm.trans frm11 fun c hc=>by
  rcases pr.gro c hc with h | h
  ·exact .inl h
  ·exact .inr h.1,pr.gro.trans gro11 pr.frm.1 frm11.1⟩,by rw [hfr],rfl,hlt⟩
theorem rputNo {p:Nat} (n:Nat) (k k':SK) (l:List (ByteArray × ByteArray)) (ks:List ByteArray) (now:Int) {H:Heap} (hl:l.length≤8000000) (hks:ks.length≤8000000) (hm:¬ (MayP n l ks∧TickOk now)) :
  W env (.call 51 [.ptr p 0,.int .u64 n,.sl k (l.map eP),.sl k' (ks.map eS),.int .i64 now]) H (fun o H'=>o=.val (.tup [.bool false,.int .i64 1])∧Ext H H'):=by
 refine W.fnI rfl rfl rfl ?_
 simp -implicitDefEqProofs only [ir51,op,ef,cl,sq,reduceIte,q3,q5,q6,q7,q8,q9,j1,j2,j3,S1]
 refine callB_of _ _ _ _ _ _ _ _ (rmay81 n k k' l ks _ hl hks) ?_
 rintro u H1 ⟨hx1,bb,hu,hb⟩
 cases hu
 cases bb
 ·simp -implicitDefEqProofs only [op,ef,cl,sq,reduceIte,q3,q5,q6,q7,q8,q9,j1,j2,j3,S1];exact hx1
 ·simp -implicitDefEqProofs only [op,ef,cl,sq,reduceIte,q3,q5,q6,q7,q8,q9,j1,j2,j3,S1]
  refine callB_of _ _ _ _ _ _ _ _ (rtick71 now _) ?_
  rintro u H2 ⟨hu,rfl⟩
  cases hu
  have hf:(decide (0≤now)&&decide (now≤1099511627776))=false:=by
   rw [Bool.and_eq_false_iff,decide_eq_false_iff_not,decide_eq_false_iff_not]
   have:¬ TickOk now:=fun h=>hm ⟨hb.1 rfl,h⟩
   unfold TickOk at this;omega
  simp -implicitDefEqProofs only [op,ef,cl,sq,reduceIte,q3,q5,q6,q7,q8,q9,j1,j2,j3,S1,hf]
  exact hx1
theorem ins_up {α:Type} {lt:α→α→Bool} (tr:∀ {a b c},lt a b=true→lt b c=true→lt a c=true) {l:List α} (hs:l.Pairwise (fun a b=>lt a b=true)) {x:α} (hd:∀ y∈l,lt y x=false→lt x y=true) {i:Nat} (h1:∀ j y,j<i→l[j]?=some y→lt y x=true) (h2:∀ y,l[i]?=some y→lt y x=false) :
  (l.take i++x :: l.drop i).Pairwise (fun a b=>lt a b=true):=by
 have ht:∀ y∈l.take i,lt y x=true:=fun y hy=>by
  obtain ⟨j,hj,e⟩:=List.getElem_of_mem hy
  rw [List.length_take] at hj
  rw [List.getElem_take] at e
  exact h1 j y (by omega) (by rw [List.getElem?_eq_getElem (by omega),e])
 have hdd:∀ z∈l.drop i,lt x z=true:=fun z hz=>by
  by_cases hlt:i<l.length
  ·obtain ⟨y,hy⟩:=getP hlt
   have h3:=hd y (List.mem_of_getElem? hy) (h2 y hy)
   rcases drop_ge hs hy hz with rfl | h
   ·exact h3
   ·exact tr h3 h
  ·rw [List.drop_eq_nil_of_le (by omega)] at hz;cases hz
 refine List.pairwise_append.2 ⟨hs.sublist (List.take_sublist _ _),List.pairwise_cons.2 ⟨hdd,hs.sublist (List.drop_sublist _ _)⟩,fun y hy z hz=>?_⟩
 rcases List.mem_cons.1 hz with rfl | hz
 ·exact ht y hy
 ·exact tr (ht y hy) (hdd z hz)
theorem up_set {l:List Nm} (hs:lastsUp l) {i:Nat} {x:Nm} (hx:l[i]?=some x) (n:Nat):lastsUp (l.set i (x.1,n)):=by
 have e:(l.set i (x.1,n)).map (·.1)=l.map (·.1):=by
  rw [List.map_set]
  refine List.ext_getElem? fun j=>?_
  rw [List.getElem?_set]
  split
  ·rename_i hj;subst hj
   rw [List.getElem?_map,hx];simp
   have:=(List.getElem?_eq_some_iff.1 hx).1
   omega
  ·rfl
 have h1:(l.map (·.1)).Pairwise (fun a b=>strLt a b=true):=List.pairwise_map.2 hs
 rw [← e] at h1
 exact List.pairwise_map.1 h1
theorem look_set {l:List Nm} (hs:lastsUp l) {i:Nat} {x:Nm} (hx:l[i]?=some x) (n:Nat) (k:ByteArray):mlook (l.set i (x.1,n)) k=if k=x.1 then some n else mlook l k:=by
 have hi:=(List.getElem?_eq_some_iff.1 hx).1
 have e:l.set i (x.1,n)=l.take i++(x.1,n) :: l.drop (i+1):=by rw [List.set_eq_take_append_cons_drop,if_pos hi]
 have e0:l=l.take i++x :: l.drop (i+1):=by rw [← drop_at hx,List.take_append_drop]
 have hno:x.1∉(l.take i).map (·.1):=fun hh=>by
  have h2:=hs.nd
  rw [e0,List.map_append,List.nodup_append] at h2
  exact h2.2.2 _ hh x.1 (by simp) rfl
 have h3:mlook l k=if k=x.1 then some x.2 else mlook (l.take i++l.drop (i+1)) k:=by
  conv=>lhs;rw [e0]
  exact mlook_ins _ _ _ hno k
 rw [e,mlook_ins (l.take i) (l.drop (i+1)) (x.1,n) hno,h3]
 by_cases hk:k=x.1
 ·simp [hk]
 ·simp [hk]
theorem RC.wrL {H:Heap} {p c:Nat} {tK tL:T} {K:List Kd} {L L':List Nm} {G:Nat→Prop} (h:RC H p tK tL K L G) (hc:tb tL=some c) (hl:L'.length=L.length):RC (H.set c (.cells (msC eW L'))) p tK tL K L' G∧Frm G H (H.set c (.cells (msC eW L'))):=by
 have f:Frm (fun d=>d=c) H (H.set c (.cells (msC eW L'))):=(Frm.refl (fun d=>d=c) H).set (.inl rfl) _
 have hb:=mut_blk h.mL hc
 refine ⟨⟨f.get h.hp fun e=>(h.gL c hc).2 e.symm,mut_frm h.mK f fun d hd e=>h.ne d hd (e ▸ hc),?_,h.gp,h.gK,h.gL,h.ne,h.ko⟩,f.mono fun d e=>e ▸ (h.gL c hc).1⟩
 rcases h.mL with ⟨_,e⟩ | ⟨c',e,hb',h0⟩
 ·rw [e] at hc;cases hc
 ·rw [e] at hc;cases hc
  exact .inr ⟨c,by rw [e,hl],g_eq (glt hb'),h0⟩
theorem RC.wrK {H:Heap} {p c:Nat} {tK tL:T} {K K':List Kd} {L:List Nm} {G:Nat→Prop} (h:RC H p tK tL K L G) (hc:tb tK=some c) (hl:K'.length=K.length) (hko:∀ x∈K',x.kk=.arg∧x.keys.length≤1024):RC (H.set c (.cells (msC eKd K'))) p tK tL K' L G∧Frm G H (H.set c (.cells (msC eKd K'))):=by
 have f:Frm (fun d=>d=c) H (H.set c (.cells (msC eKd K'))):=(Frm.refl (fun d=>d=c) H).set (.inl rfl) _
 have hb:=mut_blk h.mK hc
 refine ⟨⟨f.get h.hp fun e=>(h.gK c hc).2 e.symm,?_,mut_frm h.mL f fun d hd e=>h.ne c hc (e ▸ hd),h.gp,h.gK,h.gL,h.ne,hko⟩,f.mono fun d e=>e ▸ (h.gK c hc).1⟩
 rcases h.mK with ⟨_,e⟩ | ⟨c',e,hb',h0⟩
 ·rw [e] at hc;cases hc
 ·rw [e] at hc;cases hc
  exact .inr ⟨c,by rw [e,hl],g_eq (glt hb'),h0⟩
structure RaiR (H H':Heap) (p:Nat) (tK:T) (K:List Kd) (L:List Nm) (G:Nat→Prop) (k:ByteArray) (n:Nat) (tL':T) (L':List Nm) (G':Nat→Prop):Prop where
 rc:RC H' p tK tL' K L' G'
 up:lastsUp L'
 look:∀ k',mlook L' k'=if k'=k then some n else mlook L k'
 len:L'.length≤L.length+1
 frm:Frm G H H'
 gro:Gro G G' H H'
set_option maxHeartbeats 1000000 in
theorem raise82 {H:Heap} {p:Nat} {tK tL:T} {K:List Kd} {L:List Nm} {G:Nat→Prop} (h:RC H p tK tL K L G) (hs:lastsUp L) (hL:L.length<8000000) (k:ByteArray) (n:Nat) :
  W env (.call 82 [.ptr p 0,.str k,.int .u64 n]) H (fun o H'=>o=.val (.tup [])∧∃ tL' L' G',RaiR H H' p tK K L G k n tL' L' G'):=by
 have hlen:=len_mut h.mL
 have lp:=glt h.hp
 have r0:∀ {i:Nat} {x:Nm},L[i]?=some x→ldcB 1 (i*2+0) (some (.cells (msC eW L)))=some [.str x.1]:=fun hx=>msC_get (enc:=eW) (n:=2) (fun _=>rfl) hx 0 1 (by decide)
 refine W.fnI rfl rfl rfl ?_
 simp -implicitDefEqProofs only [ir82,op,ef,cl,sq,reduceIte,q3,q5,q6,q7,q8,q9,j1,j2,j3,S1]
 refine W.loopX 0 [(0,_),(1,_),(2,_)] (fun (i:Nat) R H'=>H'=H∧R 6=.int .i64 i∧i≤L.length∧∀ j x,j<i→L[j]?=some x→strLt x.1 k=true) (fun i=>L.length-i) 0
  (fun R H'=>H'=H∧∃ i:Nat,R 6=.int .i64 i∧i≤L.length∧(∀ j x,j<i→L[j]?=some x→strLt x.1 k=true)∧∀ x,L[i]?=some x→strLt x.1 k=false) ⟨rfl,rfl,Nat.zero_le _,fun j x hj=>by omega⟩ ?_ ?_
 ·rintro i R H1 ⟨rfl,g6,hi,hall⟩
  by_cases hlt:i<L.length
  ·obtain ⟨x,hx⟩:=getP hlt
   obtain ⟨c,hc,ia,_⟩:=mut_n (enc:=eW) (n:=2) (fun _=>rfl) (by decide) h.mL hx
   have wsi:=wrap_succ (show i<9223372036854775807 by omega)
   cases hlk:strLt x.1 k
   ·simp -implicitDefEqProofs only [mkR_nil,mkR_cons,op,ef,cl,sq,reduceIte,q3,q5,q6,q7,q8,q9,j1,j2,j3,S1,h.hp,hlen,g6,hlt,natOf_nat,ia,hc,r0 hx,hlk]
    exact ⟨i,rfl,hi,hall,fun y hy=>by rw [hx] at hy;cases hy;exact hlk⟩
   ·simp -implicitDefEqProofs only [mkR_nil,mkR_cons,op,ef,cl,sq,reduceIte,q3,q5,q6,q7,q8,q9,j1,j2,j3,S1,h.hp,hlen,g6,hlt,natOf_nat,ia,hc,r0 hx,hlk,wsi]
    refine ⟨i+1,by omega,rfl,hlt,fun j y hj hy=>?_⟩
    by_cases e:j=i
    ·subst e;rw [hx] at hy;cases hy;exact hlk
    ·exact hall j y (by omega) hy
  ·simp -implicitDefEqProofs only [mkR_nil,mkR_cons,op,ef,cl,sq,reduceIte,q3,q5,q6,q7,q8,q9,j1,j2,j3,S1,h.hp,hlen,g6,hlt]
   exact ⟨i,rfl,hi,hall,fun y hy=>by have:=(List.getElem?_eq_some_iff.1 hy).1;omega⟩
 rintro R H1 ⟨rfl,i,g6,hi,hall,hge⟩
 by_cases hin:∃ x,L[i]?=some x∧x.1=k
 ·obtain ⟨x,hx,rfl⟩:=hin
  have hlt:=(List.getElem?_eq_some_iff.1 hx).1
  obtain ⟨c,hc,ia,_⟩:=mut_n (enc:=eW) (n:=2) (fun _=>rfl) (by decide) h.mL hx
  have hst:=msC_set (enc:=eW) (n:=2) (y:=(x.1,n)) (fun _=>rfl) hx H1 c [.int .u64 n] 1 (by simp) rfl
  have htb:=tb_of h.mL hx ia (by decide)
  obtain ⟨rc,fr⟩:=h.wrL (L':=L.set i (x.1,n)) htb (by simp)
  simp -implicitDefEqProofs only [mkR_nil,mkR_cons,op,ef,cl,sq,reduceIte,q3,q5,q6,q7,q8,q9,j1,j2,j3,S1,h.hp,hlen,g6,hlt,natOf_nat,ia,hc,r0 hx,hst]
  exact ⟨rfl,tL,_,G,rc,up_set hs hx n,look_set hs hx n,by simp,fr,Gro.refl _ _ _⟩
 ·have hno:∀ x,L[i]?=some x→x.1≠k:=fun x hx e=>hin ⟨x,hx,e⟩
  obtain ⟨t1,H2,ta,tz,I⟩:=ins_mk (enc:=eW) (n:=2) (bytes:=24) (fun _=>rfl) h.mL hi (fun j hj=>roomT (by omega))
  have lt1:(L.take i).length=i:=by rw [List.length_take];omega
  obtain ⟨t2,H3,a2,m2,x2,b2⟩:=app_own (enc:=eW) (n:=2) (bytes:=24) (fun _=>rfl) I.m1 I.x1 I.b1 [(k,n)] (roomT (by rw [lt1,List.length_singleton];omega))
  obtain ⟨t3,H4,a3,m3,x3,b3⟩:=app_own (enc:=eW) (n:=2) (bytes:=24) (fun _=>rfl) m2 x2 b2 (L.drop i) (roomT (by rw [List.length_append,lt1,List.length_singleton,List.length_drop];omega))
  have e2:=(h.ext x2).hp
  have ez:=I.ez H3 (h.ext x2).mL
  rw [ins_fin] at m3
  obtain ⟨hp4,frm4,G2,rc4,gro4⟩:=h.setL (ext_frm x3) m3 b3
  have l4:=glt hp4
  have fgt0:fgt (.sl .nil [])=.sl .nil []:=rfl
  simp -implicitDefEqProofs only [eW,List.map_cons,List.map_nil] at a2
  have knot:k∉(L.take i).map (·.1):=fun hh=>by
   obtain ⟨y,hy,e⟩:=List.mem_map.1 hh
   obtain ⟨j,hj,e2⟩:=List.getElem_of_mem hy
   rw [List.length_take] at hj
   rw [List.getElem_take] at e2
   have:=hall j y (by omega) (by rw [List.getElem?_eq_getElem (by omega),e2])
   rw [e,lt_irr] at this;cases this
  have fin:∃ tL' L' G',RaiR H1 (H4.set p (.cells [tK,t3])) p tK K L G k n tL' L' G':=by
   refine ⟨t3,_,G2,rc4,?_,fun k'=>?_,?_,frm4,gro4⟩
   ·refine ins_up (lt:=fun a b:Nm=>strLt a.1 b.1) (fun h1 h2=>lt_trans' h1 h2) hs (x:=(k,n)) (fun y hy hf=>?_) hall hge
    cases e:strLt k y.1 with
    | true=>rfl
    | false =>
     exfalso
     have e3:=lt_tri hf e
     by_cases hlt:i<L.length
     ·obtain ⟨x,hx⟩:=getP hlt
      obtain ⟨j,hj,ej⟩:=List.getElem_of_mem hy
      have hyj:L[j]?=some y:=by rw [List.getElem?_eq_getElem hj,ej]
      by_cases c1:j<i
      ·have:=hall j y c1 hyj;rw [e3,lt_irr] at this;cases this
      ·by_cases c2:j=i
       ·subst c2;exact hno y hyj e3
       ·have h1:=List.pairwise_iff_getElem.1 hs i j hlt hj (by omega)
        rw [ej,(List.getElem?_eq_some_iff.1 hx).2] at h1
        have h2:=hge x hx
        rw [e3] at h1;rw [h1] at h2;cases h2
     ·obtain ⟨j,hj,ej⟩:=List.getElem_of_mem hy
      have:=hall j y (by omega) (by rw [List.getElem?_eq_getElem hj,ej])
      rw [e3,lt_irr] at this;cases this
   ·have:=mlook_ins (L.take i) (L.drop i) (k,n) knot k'
    rw [List.take_append_drop] at this
    exact this
   ·simp -implicitDefEqProofs only [List.length_append,List.length_take,List.length_cons,List.length_drop];omega
  by_cases hlt:i<L.length
  ·obtain ⟨x,hx⟩:=getP hlt
   obtain ⟨c,hc,ia,_⟩:=mut_n (enc:=eW) (n:=2) (fun _=>rfl) (by decide) h.mL hx
   have hne:=hno x hx
   simp -implicitDefEqProofs only [mkR_nil,mkR_cons,op,ef,cl,sq,reduceIte,q3,q5,q6,q7,q8,q9,j1,j2,j3,S1,h.hp,hlen,g6,hlt,natOf_nat,ia,hc,r0 hx,hne,↓I.lo,I.ea,fgt0,I.a1,fgt_mut I.m1,a2,e2,↓I.hi,ez,fgt_mut m2,a3,hp4,l4,cells_mut m3]
   exact ⟨rfl,fin⟩
  ·simp -implicitDefEqProofs only [mkR_nil,mkR_cons,op,ef,cl,sq,reduceIte,q3,q5,q6,q7,q8,q9,j1,j2,j3,S1,h.hp,hlen,g6,hlt,natOf_nat,↓I.lo,I.ea,fgt0,I.a1,fgt_mut I.m1,a2,e2,↓I.hi,ez,fgt_mut m2,a3,hp4,l4,cells_mut m3]
   exact ⟨rfl,fin⟩
def cntK (K:List Kd) (n:Nat):Nat:=(K.filter fun x=>decide (x.id=n)).length
theorem cnt_sn {K:List Kd} {i n:Nat} {x:Kd} (hx:K[i]?=some x):cntK (K.take (i+1)) n=cntK (K.take i) n+if x.id=n then 1 else 0:=by
 unfold cntK
 rw [take_sn hx,List.filter_append,List.length_append]
 by_cases e:x.id=n <;> simp [e]
theorem cnt_le (K:List Kd) (n:Nat):cntK K n≤K.length:=List.length_filter_le _ _
def stF (last:ByteArray→Nat) (now:Int) (x:Kd):Kd:=if x.stamp=-1∧x.id<last x.key then { x with stamp:=now } else x
theorem stF_nm (last:ByteArray→Nat) (now:Int) (x:Kd):(stF last now x).nm=x.nm:=by unfold stF;split <;> rfl
theorem stF_ko (last:ByteArray→Nat) (now:Int) (x:Kd) (h:x.kk=.arg∧x.keys.length≤1024):(stF last now x).kk=.arg∧(stF last now x).keys.length≤1024:=by unfold stF;split <;> exact h
theorem stF_up {K:List Kd} (h:keptUp K) (last:ByteArray→Nat) (now:Int):keptUp (K.map (stF last now)):=List.pairwise_map.2 (h.imp fun {a b} hab=>by rw [stF_nm,stF_nm];exact hab)
theorem look_map {K:List Kd} (hs:keptUp K) (f:Kd→Kd) (hf:∀ x,(f x).nm=x.nm) (m:Nm):mlook (kdL (K.map f)) m=(K.find? fun x=>decide (x.nm=m)).map fun x=>(f x).vd:=by
 induction K with
 | nil=>rfl
 | cons x K ih =>
  unfold keptUp at hs
  rw [List.pairwise_cons] at hs
  rw [List.map_cons,kdL_cons,mlook_cons,hf,List.find?_cons,ih hs.2]
  by_cases e:m=x.nm
  ·subst e;simp
  ·have e2:¬ x.nm=m:=fun h=>e h.symm
   simp [e,e2]
theorem look_find {K:List Kd} (hs:keptUp K) (m:Nm):mlook (kdL K) m=(K.find? fun x=>decide (x.nm=m)).map Kd.vd:=by
 have:=look_map hs id (fun _=>rfl) m
 rwa [List.map_id] at this
set_option maxHeartbeats 2000000 in
theorem rcommit52 {H:Heap} {p:Nat} {tK tL:T} {K:List Kd} {L:List Nm} {G:Nat→Prop} (h:RC H p tK tL K L G) (hs:keptUp K) (hl:lastsUp L) (hS:AbS (ldAb K L)) (hK:K.length≤3000000) (hL:L.length≤3000000) (n:Nat) (now:Int) (hid:65536≤n) (ht:TickOk now) :
  W env (.call 52 [.ptr p 0,.int .u64 n,.int .i64 now]) H (fun o H'=>o=.val (.tup [.int .i64 (cntK K n),.int .i64 0])∧∃ tL' K' L' G',RC H' p tK tL' K' L' G'∧keptUp K'∧lastsUp L'∧ldAb K' L'=(ldAb K L).com n now∧K'.length=K.length∧Frm G H H'∧Gro G G' H H'):=by
 have hlen:=len_mut h.mK
 have hhas:∀ k,memN (K.map Kd.nm) (k,n)=(ldAb K L).has (k,n):=fun k=>by
  rw [Bool.eq_iff_iff,memN_iff,← kdL_key,mem_keys];rfl
 refine W.fnI rfl rfl rfl ?_
 simp -implicitDefEqProofs only [ir52,op,ef,cl,sq,reduceIte,q3,q5,q6,q7,q8,q9,j1,j2,j3,S1]
 refine callB_of _ _ _ _ _ _ _ _ (rid68 n _) ?_
 rintro u H1 ⟨hu,rfl⟩
 cases hu
 have hd:decide (65536≤n)=true:=decide_eq_true hid
 simp -implicitDefEqProofs only [op,ef,cl,sq,reduceIte,q3,q5,q6,q7,q8,q9,j1,j2,j3,S1,hd]
 refine callB_of _ _ _ _ _ _ _ _ (rtick71 now _) ?_
 rintro u H1 ⟨hu,rfl⟩
 cases hu
 have htk:(decide (0≤now)&&decide (now≤1099511627776))=true:=by simp [ht.1,ht.2]
 simp -implicitDefEqProofs only [op,ef,cl,sq,reduceIte,q3,q5,q6,q7,q8,q9,j1,j2,j3,S1,htk]
 refine W.loopX 0 [(0,_),(1,_),(2,_)] (fun (i:Nat) R H'=>At H' (fun H'=>∃ tL' L' G',RC H' p tK tL' K L' G'∧lastsUp L'∧L'.length≤L.length+i∧(∀ k,mlook L' k=if memN ((K.take i).map Kd.nm) (k,n)=true∧(ldAb K L).last k<n then some n else mlook L k)∧Frm G H1 H'∧Gro G G' H1 H')∧R 8=.int .i64 (cntK (K.take i) n)∧R 9=.int .i64 i∧i≤K.length) (fun i=>K.length-i) 0
  (fun R H'=>At H' (fun H'=>∃ tL' L' G',RC H' p tK tL' K L' G'∧lastsUp L'∧L'.length≤L.length+K.length∧(∀ k,mlook L' k=((ldAb K L).com n now).l k)∧Frm G H1 H'∧Gro G G' H1 H')∧R 8=.int .i64 (cntK K n)) ⟨.i ⟨tL,L,G,h,hl,by omega,fun k=>by simp [memN],Frm.refl _ _,Gro.refl _ _ _⟩,rfl,rfl,Nat.zero_le _⟩ ?_ ?_
 ·rintro i R H2 ⟨⟨tL',L',G',h2,hl2,hn2,hk2,f2,g2⟩,g8,g9,hi⟩
  by_cases hlt:i<K.length
  rotate_left
  ·have hie:i=K.length:=by omega
   subst hie
   rw [List.take_length] at g8 hk2
   simp -implicitDefEqProofs only [mkR_nil,mkR_cons,op,ef,cl,sq,reduceIte,q3,q5,q6,q7,q8,q9,j1,j2,j3,S1,h2.hp,hlen,g8,g9,hlt]
   refine ⟨tL',L',G',h2,hl2,hn2,fun k=>?_,f2,g2⟩
   rw [hk2,hhas];rfl
  obtain ⟨x,hx⟩:=getP hlt
  obtain ⟨c,hc,ia,_⟩:=mut_n (enc:=eKd) (n:=5) (fun _=>rfl) (by decide) h2.mK hx
  have wsi:=wrap_succ (show i<9223372036854775807 by omega)
  have hcl:=cnt_le (K.take i) n
  rw [List.length_take] at hcl
  have wsc:=wrap_succ (show cntK (K.take i) n<9223372036854775807 by omega)
  have r0:ldcB 4 (i*5+0) (some (.cells (msC eKd K)))=some [.str x.key,.int .u64 x.id,.str x.value,.sl x.kk (x.keys.map eS)]:=msC_get (enc:=eKd) (n:=5) (fun _=>rfl) hx 0 4 (by decide)
  have hcn:=cnt_sn (n:=n) hx
  obtain ⟨H3,hH3⟩:∃ H3,H3=H2++[B.cells [T.str x.key,.int .u64 x.id,.str x.value,.sl x.kk (x.keys.map eS)]]:=⟨_,rfl⟩
  have hx3:Ext H2 H3:=⟨_,hH3⟩
  have c0:H3[H2.length]?=some (.cells [T.str x.key,.int .u64 x.id,.str x.value,.sl x.kk (x.keys.map eS)]):=by rw [hH3];exact g_tail rfl
  have h3:=h2.ext hx3
  have memsn:∀ k,memN ((K.take (i+1)).map Kd.nm) (k,n)=(memN ((K.take i).map Kd.nm) (k,n)||decide (x.nm=(k,n))):=fun k=>by
   rw [take_sn hx];simp [memN,List.any_append]
  by_cases hxn:x.id=n
  rotate_left
  ·have hm:∀ k,decide (x.nm=(k,n))=false:=fun k=>decide_eq_false fun e=>hxn (congrArg Prod.snd e)
   rw [if_neg hxn] at hcn
   simp -implicitDefEqProofs only [mkR_nil,mkR_cons,op,ef,cl,sq,reduceIte,q3,q5,q6,q7,q8,q9,j1,j2,j3,S1,S2,S3,h2.hp,hlen,g8,g9,hlt,natOf_nat,ia,hc,r0,hxn,wsi]
   rw [← hH3]
   exact ⟨i+1,by omega,.i ⟨tL',L',G',h3,hl2,by omega,fun k=>by rw [hk2,memsn,hm,Bool.or_false],f2.ext hx3,fun c hc=>(g2 c hc).imp id fun h=>⟨h.1,by have:=hx3.len;omega⟩⟩,by rw [hcn];rfl,rfl,hlt⟩
  rw [if_pos hxn] at hcn
  subst hxn
  simp -implicitDefEqProofs only [mkR_nil,mkR_cons,op,ef,cl,sq,reduceIte,q3,q5,q6,q7,q8,q9,j1,j2,j3,S1,S2,S3,h2.hp,hlen,g8,g9,hlt,natOf_nat,ia,hc,r0,wsc]
  rw [← hH3]
  have hni:memN ((K.take i).map Kd.nm) x.nm=false:=memN_no fun hh=>by
   have h4:=hs.nd
   rw [← List.take_append_drop i K,drop_at hx,List.map_append,List.nodup_append] at h4
   exact h4.2.2 _ hh x.nm (by simp) rfl
  have exn:x.nm=(x.key,x.id):=rfl
  rw [exn] at hni
  have hla:(ldAb K L').last x.key=(ldAb K L).last x.key:=by
   show (mlook L' x.key).getD 0=(mlook L x.key).getD 0
   rw [hk2,hni];simp
  refine callB_of _ _ _ _ _ _ _ _ (rlast56 h3 (by omega) x.key) ?_
  rintro u H4 ⟨hu,rfl⟩
  cases hu
  rw [hla]
  have hkk:∀ k,k≠x.key→decide (x.nm=(k,x.id))=false:=fun k e=>decide_eq_false fun e2=>e (congrArg Prod.fst e2).symm
  have hkx:decide (x.nm=(x.key,x.id))=true:=decide_eq_true rfl
  by_cases hl3:(ldAb K L).last x.key<x.id
  ·simp -implicitDefEqProofs only [mkR_nil,mkR_cons,op,ef,cl,sq,reduceIte,q3,q5,q6,q7,q8,q9,j1,j2,j3,S1,hl3,c0]
   refine callB_of _ _ _ _ _ _ _ _ (raise82 h3 hl2 (by omega) x.key x.id) ?_
   rintro u H5 ⟨hu,tL2,L2,G2,rr⟩
   cases hu
   simp -implicitDefEqProofs only [mkR_nil,mkR_cons,op,ef,cl,sq,reduceIte,q3,q5,q6,q7,q8,q9,j1,j2,j3,S1,g9,wsi]
   have f3:=f2.ext hx3
   have g3:Gro G G' H1 H4:=fun c hc=>(g2 c hc).imp id fun h=>⟨h.1,by have:=hx3.len;omega⟩
   refine ⟨i+1,by omega,.i ⟨tL2,L2,G2,rr.rc,rr.up,by have:=rr.len;omega,fun k=>?_,f3.trans rr.frm fun c hc=>(g3 c hc).imp id And.left,g3.trans rr.gro f3.1 rr.frm.1⟩,by rw [hcn],rfl,hlt⟩
   rw [rr.look,hk2,memsn]
   by_cases e:k=x.key
   ·subst e;simp -implicitDefEqProofs only [hkx,Bool.or_true,hl3,and_self,if_true]
   ·simp -implicitDefEqProofs only [hkk k e,Bool.or_false,e,if_false]
  ·simp -implicitDefEqProofs only [mkR_nil,mkR_cons,op,ef,cl,sq,reduceIte,q3,q5,q6,q7,q8,q9,j1,j2,j3,S1,hl3,g9,wsi]
   refine ⟨i+1,by omega,.i ⟨tL',L',G',h3,hl2,by omega,fun k=>?_,f2.ext hx3,fun c hc=>(g2 c hc).imp id fun h=>⟨h.1,by have:=hx3.len;omega⟩⟩,by rw [hcn],rfl,hlt⟩
   rw [hk2,memsn]
   by_cases e:k=x.key
   ·subst e;simp -implicitDefEqProofs only [hl3,and_false,if_false]
   ·simp -implicitDefEqProofs only [hkk k e,Bool.or_false]
 rintro R H2 ⟨⟨tL',L',G',h2,hl2,hn2,hk2,f2,g2⟩,g8⟩
 obtain ⟨f,hf⟩:∃ f,f=stF (ldAb K L').last now:=⟨_,rfl⟩
 have fko:∀ j,∀ x∈mapTo f K j,x.kk=.arg∧x.keys.length≤1024:=fun j x hx=>by
  rcases List.mem_append.1 hx with hx | hx
  ·obtain ⟨y,hy,rfl⟩:=List.mem_map.1 hx
   rw [hf];exact stF_ko _ _ _ (h2.ko y (List.mem_of_mem_take hy))
  ·exact h2.ko x (List.mem_of_mem_drop hx)
 simp -implicitDefEqProofs only [mkR_nil,mkR_cons,op,ef,cl,sq,reduceIte,q3,q5,q6,q7,q8,q9,j1,j2,j3,S1]
 refine W.loopV [(0,_),(2,_),(8,_)] (fun (j:Nat) R H'=>At H' (fun H'=>RC H' p tK tL' (mapTo f K j) L' G'∧Frm G' H2 H')∧R 11=.int .i64 j∧j≤K.length) (fun j=>K.length-j) 0 ⟨.i ⟨by rw [mapTo_0];exact h2,Frm.refl _ _⟩,rfl,Nat.zero_le _⟩ ?_
 rintro j R H3 ⟨⟨h3,f3⟩,g11,hj⟩
 by_cases hlt:j<K.length
 rotate_left
 ·have hje:j=K.length:=by omega
  subst hje
  rw [mapTo_end] at h3
  have ho:∀ c,G' c→G c∨H1.length≤c:=fun c hc=>(g2 c hc).imp id And.left
  simp -implicitDefEqProofs only [mkR_nil,mkR_cons,op,ef,cl,sq,reduceIte,q3,q5,q6,q7,q8,q9,j1,j2,j3,S1,h3.hp,hlen,g8,g11,hlt]
  refine ⟨tL',K.map f,L',G',h3,by rw [hf];exact stF_up hs _ _,hl2,?_,by simp,f2.trans f3 ho,fun c hc=>(g2 c hc).imp id fun h=>⟨h.1,by have:=f3.1;omega⟩⟩
  have hlast:∀ k,(ldAb K L').last k=((ldAb K L).com n now).last k:=fun k=>by
   show (mlook L' k).getD 0=(((ldAb K L).com n now).l k).getD 0
   rw [hk2]
  refine ab_ext (fun m=>?_) hk2
  show mlook (kdL (K.map f)) m=((ldAb K L).v m).map _
  have ev:(ldAb K L).v m=(K.find? fun x=>decide (x.nm=m)).map Kd.vd:=look_find hs m
  rw [look_map hs f (fun x=>by rw [hf];exact stF_nm _ _ _),ev]
  cases hfi:K.find? (fun x=>decide (x.nm=m)) with
  | none=>rfl
  | some x =>
   have hxm:x.nm=m:=by simpa using List.find?_some hfi
   rw [hfi] at ev
   have hSm:=hS m x.vd ev
   have e1:x.vd.stamp=x.stamp:=rfl
   have e2:m.1=x.key:=by rw [← hxm];rfl
   have e3:m.2=x.id:=by rw [← hxm];rfl
   rw [e1,e2,e3] at hSm
   have hl4:=hlast x.key
   rw [last_com] at hl4
   simp -implicitDefEqProofs only [Option.map_some,Option.some.injEq,e1,e2,e3]
   rw [hf]
   unfold stF
   rw [hl4]
   by_cases hst:x.stamp=-1
   ·by_cases hc:(ldAb K L).has (x.key,n)=true∧(ldAb K L).last x.key<n
    ·rw [if_pos hc]
     by_cases hlt5:x.id<n
     ·rw [if_pos ⟨hst,hlt5⟩,if_pos ⟨hst,hc.1,hc.2,hlt5⟩];rfl
     ·rw [if_neg fun h=>hlt5 h.2,if_neg fun h=>hlt5 h.2.2.2]
    ·rw [if_neg hc,if_neg fun h=>hSm.1 hst h.2,if_neg fun h=>hc ⟨h.2.1,h.2.2.1⟩]
   ·rw [if_neg fun h=>hst h.1,if_neg fun h=>hst h.1]
 obtain ⟨x,hx⟩:=getP hlt
 have hxm:=mapTo_get (f:=f) hx
 have hlm:(mapTo f K j).length=K.length:=mapTo_len
 obtain ⟨c,hc,ia,_⟩:=mut_n (enc:=eKd) (n:=5) (fun _=>rfl) (by decide) h3.mK hxm
 have wsj:=wrap_succ (show j<9223372036854775807 by omega)
 have r4:ldcB 1 (j*5+4) (some (.cells (msC eKd (mapTo f K j))))=some [.int .i64 x.stamp]:=msC_get (enc:=eKd) (n:=5) (fun _=>rfl) hxm 4 1 (by decide)
 have r1:ldcB 1 (j*5+0+1) (some (.cells (msC eKd (mapTo f K j))))=some [.int .u64 x.id]:=msC_get (enc:=eKd) (n:=5) (fun _=>rfl) hxm 1 1 (by decide)
 have r0:ldcB 1 (j*5+0+0) (some (.cells (msC eKd (mapTo f K j))))=some [.str x.key]:=msC_get (enc:=eKd) (n:=5) (fun _=>rfl) hxm 0 1 (by decide)
 have same:f x=x→RC H3 p tK tL' (mapTo f K (j+1)) L' G':=fun e=>by rw [mapTo_same hx e];exact h3
 by_cases hst:x.stamp=-1
 rotate_left
 ·have hb:(x.stamp==-1)=false:=by simp [hst]
  simp -implicitDefEqProofs only [mkR_nil,mkR_cons,op,ef,cl,sq,reduceIte,q3,q5,q6,q7,q8,q9,j1,j2,j3,S1,h3.hp,hlen,g8,g11,hlt,natOf_nat,ia,hc,r4,hst,hb,wsj]
  exact ⟨j+1,by omega,.i ⟨same (by rw [hf];unfold stF;rw [if_neg fun h=>hst h.1]),f3⟩,rfl,hlt⟩
 have hb:(x.stamp==-1)=true:=by simp [hst]
 simp -implicitDefEqProofs only [mkR_nil,mkR_cons,op,ef,cl,sq,reduceIte,q3,q5,q6,q7,q8,q9,j1,j2,j3,S1,h3.hp,hlen,g8,g11,hlt,natOf_nat,ia,hc,r4,r1,r0,hst]
 refine callB_of _ _ _ _ _ _ _ _ (rlast56 h3 (by omega) x.key) ?_
 rintro u H4 ⟨hu,rfl⟩
 cases hu
 have hlq:(ldAb (mapTo f K j) L').last x.key=(ldAb K L').last x.key:=rfl
 rw [hlq]
 by_cases hl5:x.id<(ldAb K L').last x.key
 ·have hfx:f x={ x with stamp:=now }:=by rw [hf];unfold stF;rw [if_pos ⟨hst,hl5⟩]
  have hset:=msC_set (enc:=eKd) (n:=5) (y:=f x) (fun _=>rfl) hxm H4 c [.int .i64 now] 4 (by simp) (by rw [hfx];rfl)
  have htb:=tb_of h3.mK hxm ia (by decide)
  obtain ⟨rc,fr⟩:=h3.wrK (K':=(mapTo f K j).set j (f x)) htb (by simp) (by rw [mapTo_set hx];exact fko (j+1))
  simp -implicitDefEqProofs only [mkR_nil,mkR_cons,op,ef,cl,sq,reduceIte,q3,q5,q6,q7,q8,q9,j1,j2,j3,S1,hl5,h3.hp,g8,g11,natOf_nat,ia,hc,r1,r0,hset,wsj]
  rw [mapTo_set hx] at rc fr ⊢
  exact ⟨j+1,by omega,.i ⟨rc,f3.trans fr fun _ h=>.inl h⟩,rfl,hlt⟩
 ·simp -implicitDefEqProofs only [mkR_nil,mkR_cons,op,ef,cl,sq,reduceIte,q3,q5,q6,q7,q8,q9,j1,j2,j3,S1,hl5,h3.hp,g8,g11,hc,r1,r0,wsj]
  exact ⟨j+1,by omega,.i ⟨same (by rw [hf];unfold stF;rw [if_neg fun h=>hl5 h.2]),f3⟩,rfl,hlt⟩
theorem has_mem {K:List Kd} {L:List Nm} (m:Nm):memN (K.map Kd.nm) m=(ldAb K L).has m:=by
 rw [Bool.eq_iff_iff,memN_iff,← kdL_key,mem_keys];rfl
theorem cutK_up {K:List Kd} (hs:keptUp K) (i:Nat):keptUp (K.take i++K.drop (i+1)):=by
 have:(K.take i++K.drop (i+1)).Sublist K:=by
  conv=>rhs;rw [← List.take_append_drop i K]
  refine List.Sublist.append (List.Sublist.refl _) ?_
  rw [← List.drop_drop]
  exact List.drop_sublist _ _
 exact hs.sublist this
theorem cutK_ab {K:List Kd} {L:List Nm} (hs:keptUp K) {i:Nat} {x:Kd} (hx:K[i]?=some x):ldAb (K.take i++K.drop (i+1)) L=(ldAb K L).cut x.nm:=by
 refine ab_ext (fun m=>?_) fun _=>rfl
 have e0:K=K.take i++x :: K.drop (i+1):=by rw [← drop_at hx,List.take_append_drop]
 have hno:x.nm∉(kdL (K.take i)++kdL (K.drop (i+1))).map (·.1):=fun hh=>by
  have h2:=hs.nd
  rw [e0,List.map_append,List.map_cons,List.nodup_append,List.nodup_cons] at h2
  rw [List.map_append,kdL_key,kdL_key] at hh
  rcases List.mem_append.1 hh with hh | hh
  ·exact h2.2.2 _ hh x.nm (by simp) rfl
  ·exact h2.2.1.1 hh
 show mlook (kdL (K.take i++K.drop (i+1))) m=if m=x.nm then none else mlook (kdL K) m
 rw [kdL_app,mlook_cut _ _ (x.nm,x.vd) hno,← kdL_cons,← kdL_app,← e0]
set_option maxHeartbeats 1000000 in
theorem rdrop53 {H:Heap} {p:Nat} {tK tL:T} {K:List Kd} {L:List Nm} {G:Nat→Prop} (h:RC H p tK tL K L G) (hs:keptUp K) (hK:K.length≤8000000) (hL:L.length≤8000000) (k:ByteArray) (n:Nat) :
  W env (.call 53 [.ptr p 0,.str k,.int .u64 n]) H (fun o H' =>
   ((ldAb K L).v (k,n)=none∧o=.val (.int .i64 110)∧Ext H H')∨((ldAb K L).has (k,n)=true∧¬ n<(ldAb K L).last k∧o=.val (.int .i64 1)∧Ext H H') ∨
   ((ldAb K L).has (k,n)=true∧n<(ldAb K L).last k∧o=.val (.int .i64 0)∧∃ tK' K' G',RC H' p tK' tL K' L G'∧keptUp K'∧ldAb K' L=(ldAb K L).cut (k,n)∧K'.length≤K.length∧Frm G H H'∧Gro G G' H H')):=by
 refine W.fnI rfl rfl rfl ?_
 simp -implicitDefEqProofs only [ir53,op,ef,cl,sq,reduceIte,q3,q5,q6,q7,q8,q9,j1,j2,j3,S1]
 refine callB_of _ _ _ _ _ _ _ _ (rfind34 h hs hK (k,n)) ?_
 rintro u H1 ⟨hx1,hu⟩
 cases hu
 have hx1:Ext H H1:=hx1
 have h1:=h.ext hx1
 have hmem:=has_mem (K:=K) (L:=L) (k,n)
 cases hh:memN (K.map Kd.nm) (k,n)
 ·rw [hh] at hmem
  have hv:(ldAb K L).v (k,n)=none:=by
   have:=hmem.symm
   simpa [Ab.has] using this
  simp -implicitDefEqProofs only [op,ef,cl,sq,reduceIte,q3,q5,q6,q7,q8,q9,j1,j2,j3,S1]
  exact .inl ⟨hv,hx1⟩
 obtain ⟨x,hx,hxm⟩:=(fiK_mem hs (k,n)).1 hh
 obtain ⟨i,hi⟩:∃ i,i=fiK K (k,n):=⟨_,rfl⟩
 rw [← hi] at hx ⊢
 rw [hh] at hmem
 have hlt:=(List.getElem?_eq_some_iff.1 hx).1
 simp -implicitDefEqProofs only [op,ef,cl,sq,reduceIte,q3,q5,q6,q7,q8,q9,j1,j2,j3,S1]
 refine callB_of _ _ _ _ _ _ _ _ (rlast56 h1 hL k) ?_
 rintro u H2 ⟨hu,rfl⟩
 cases hu
 by_cases hlk:n<(ldAb K L).last k
 rotate_left
 ·have hge:(ldAb K L).last k≤n:=by omega
  simp -implicitDefEqProofs only [op,ef,cl,sq,reduceIte,q3,q5,q6,q7,q8,q9,j1,j2,j3,S1,hge]
  exact .inr (.inl ⟨hmem.symm,hlk,hx1⟩)
 have hge:¬ (ldAb K L).last k≤n:=by omega
 obtain ⟨t1,H3,ta,_,I⟩:=ins_mk (enc:=eKd) (n:=5) (bytes:=72) (fun _=>rfl) h1.mK (i:=i) (by omega) (fun j hj=>roomT (by omega))
 obtain ⟨tz,hz,ez⟩:=sll_hi (enc:=eKd) (n:=5) (fun _=>rfl) h1.mK (i:=i+1) (by omega)
 have lt1:(K.take i).length=i:=by rw [List.length_take];omega
 obtain ⟨t2,H4,a2,m2,x2,b2⟩:=app_own (enc:=eKd) (n:=5) (bytes:=72) (fun _=>rfl) I.m1 I.x1 I.b1 (K.drop (i+1)) (roomT (by rw [lt1,List.length_drop];omega))
 have h3:=h1.ext I.x1
 have e3:=h3.hp
 have ez3:=ez H3 h3.mK
 obtain ⟨hp4,frm4,G2,rc4,gro4⟩:=h.setK (ext_frm (hx1.trans x2)) m2 (fun c hc=>by have:=b2 c hc;have:=hx1.len;omega) (fun y hy=>by
  rcases List.mem_append.1 hy with hy | hy
  ·exact h.ko y (List.mem_of_mem_take hy)
  ·exact h.ko y (List.mem_of_mem_drop hy))
 have l4:=glt hp4
 have fgt0:fgt (.sl .nil [])=.sl .nil []:=rfl
 have wsi:=wrap_succ (show i<9223372036854775807 by omega)
 simp -implicitDefEqProofs only [op,ef,cl,sq,reduceIte,q3,q5,q6,q7,q8,q9,j1,j2,j3,S1,hge,h1.hp,↓I.lo,I.ea,fgt0,I.a1,wsi,fgt_mut I.m1,e3,↓hz,ez3,a2,hp4,l4,cells_mut m2]
 refine .inr (.inr ⟨hmem.symm,hlk,t2,_,G2,rc4,cutK_up hs i,by rw [cutK_ab hs hx,hxm],?_,frm4,gro4⟩)
 simp -implicitDefEqProofs only [List.length_append,List.length_take,List.length_drop];omega
theorem look_at {K:List Kd} {L:List Nm} (hs:keptUp K) {i:Nat} {x:Kd} (hx:K[i]?=some x):(ldAb K L).v x.nm=some x.vd:=by
 have hnd:((kdL K).map (·.1)).Nodup:=by rw [kdL_key];exact hs.nd
 exact mlook_of hnd (p:=(x.nm,x.vd)) (List.mem_map.2 ⟨x,List.mem_of_getElem? hx,rfl⟩)
theorem rbyID54 {H:Heap} {p:Nat} {tK tL:T} {K:List Kd} {L:List Nm} {G:Nat→Prop} (h:RC H p tK tL K L G) (hs:keptUp K) (hK:K.length≤8000000) (k:ByteArray) (n:Nat) :
  W env (.call 54 [.ptr p 0,.str k,.int .u64 n]) H (fun o H'=>Ext H H'∧(((ldAb K L).v (k,n)=none∧o=.val (.tup [.agg [.str ⟨#[]⟩,.int .u64 0,.str ⟨#[]⟩,.sl .nil []],.int .i64 110]))∨∃ d kk,(ldAb K L).v (k,n)=some d∧o=.val (.tup [.agg (eVer k n d.value kk d.keys),.int .i64 0]))):=by
 obtain ⟨H0,hH0⟩:∃ H0,H0=H++[B.cells [.str ⟨#[]⟩,.int .u64 0,.str ⟨#[]⟩,.sl .nil []]]:=⟨_,rfl⟩
 have hx0:Ext H H0:=⟨_,hH0⟩
 have c0:H0[H.length]?=some (.cells [.str ⟨#[]⟩,.int .u64 0,.str ⟨#[]⟩,.sl .nil []]):=by rw [hH0];exact g_tail rfl
 refine W.fnI rfl rfl rfl ?_
 simp -implicitDefEqProofs only [ir54,op,ef,cl,sq,reduceIte,q3,q5,q6,q7,q8,q9,j1,j2,j3,S1]
 rw [← hH0]
 refine callB_of _ _ _ _ _ _ _ _ (rfind34 (h.ext hx0) hs hK (k,n)) ?_
 rintro u H1 ⟨hx1,hu⟩
 cases hu
 have hx1:Ext H0 H1:=hx1
 have h1:=h.ext (hx0.trans hx1)
 have c1:=hx1.get c0
 have l1:=glt c1
 have hmem:=has_mem (K:=K) (L:=L) (k,n)
 cases hh:memN (K.map Kd.nm) (k,n)
 ·rw [hh] at hmem
  have hv:(ldAb K L).v (k,n)=none:=by
   have:=hmem.symm
   simpa [Ab.has] using this
  simp -implicitDefEqProofs only [op,ef,cl,sq,reduceIte,q3,q5,q6,q7,q8,q9,j1,j2,j3,S1,S2,S3,c1,l1]
  exact ⟨(hx0.trans hx1).set (Nat.le_refl _) _,.inl hv⟩
 obtain ⟨x,hx,hxm⟩:=(fiK_mem hs (k,n)).1 hh
 obtain ⟨i,hi⟩:∃ i,i=fiK K (k,n):=⟨_,rfl⟩
 rw [← hi] at hx ⊢
 obtain ⟨c,hc,ia,_⟩:=mut_n (enc:=eKd) (n:=5) (fun _=>rfl) (by decide) h1.mK hx
 have r0:ldcB 4 (i*5+0) (some (.cells (msC eKd K)))=some [.str x.nm.1,.int .u64 x.nm.2,.str x.value,.sl x.kk (x.keys.map eS)]:=msC_get (enc:=eKd) (n:=5) (fun _=>rfl) hx 0 4 (by decide)
 rw [hxm] at r0
 simp -implicitDefEqProofs only [op,ef,cl,sq,reduceIte,q3,q5,q6,q7,q8,q9,j1,j2,j3,S1,h1.hp,natOf_nat,ia,hc,r0]
 have hko:=(h.ko x (List.mem_of_getElem? hx)).2
 refine callB_of _ _ _ _ _ _ _ _ (rown33 k n x.value x.kk x.keys (by omega) _) ?_
 rintro u H2 ⟨hx2,kk',hkk,hu⟩
 cases hu
 have hx2:Ext H1 H2:=hx2
 have c2:=hx2.get c1
 have l2:=glt c2
 have hv:=look_at (L:=L) hs hx
 rw [hxm] at hv
 simp -implicitDefEqProofs only [op,ef,cl,sq,reduceIte,q3,q5,q6,q7,q8,q9,j1,j2,j3,S1,S2,S3,c2,l2]
 exact ⟨((hx0.trans hx1).trans hx2).set (Nat.le_refl _) _,.inr ⟨_,kk',hv,rfl⟩⟩
theorem rlatest55 {H:Heap} {p:Nat} {tK tL:T} {K:List Kd} {L:List Nm} {G:Nat→Prop} (h:RC H p tK tL K L G) (hs:keptUp K) (hK:K.length≤8000000) (hL:L.length≤8000000) (hw:AbW (ldAb K L)) (k:ByteArray) :
  W env (.call 55 [.ptr p 0,.str k]) H (fun o H'=>Ext H H'∧∃ kk,o=.val (.agg (eVer k ((ldAb K L).last k) ((ldAb K L).latest k).value kk ((ldAb K L).latest k).keys))):=by
 obtain ⟨n,hn⟩:∃ n,n=(ldAb K L).last k:=⟨_,rfl⟩
 obtain ⟨H0,hH0⟩:∃ H0,H0=H++[B.cells [.str ⟨#[]⟩,.int .u64 0,.str ⟨#[]⟩,.sl .nil []]]:=⟨_,rfl⟩
 have hx0:Ext H H0:=⟨_,hH0⟩
 have c0:H0[H.length]?=some (.cells [.str ⟨#[]⟩,.int .u64 0,.str ⟨#[]⟩,.sl .nil []]):=by rw [hH0];exact g_tail rfl
 refine W.fnI rfl rfl rfl ?_
 simp -implicitDefEqProofs only [ir55,op,ef,cl,sq,reduceIte,q3,q5,q6,q7,q8,q9,j1,j2,j3,S1]
 rw [← hH0]
 refine callB_of _ _ _ _ _ _ _ _ (rlast56 (h.ext hx0) hL k) ?_
 rintro u H1 ⟨hu,rfl⟩
 cases hu
 rw [← hn]
 simp -implicitDefEqProofs only [op,ef,cl,sq,reduceIte,q3,q5,q6,q7,q8,q9,j1,j2,j3,S1]
 refine callB_of _ _ _ _ _ _ _ _ (rfind34 (h.ext hx0) hs hK (k,n)) ?_
 rintro u H2 ⟨hx1,hu⟩
 cases hu
 have hx1:Ext H1 H2:=hx1
 have h1:=h.ext (hx0.trans hx1)
 have c1:=hx1.get c0
 have l1:=glt c1
 have hmem:=has_mem (K:=K) (L:=L) (k,n)
 cases hh:memN (K.map Kd.nm) (k,n)
 ·rw [hh] at hmem
  have hl:(ldAb K L).l k=none:=by
   cases e:(ldAb K L).l k with
   | none=>rfl
   | some m =>
    have h2:=hw.L k m e
    have h3:n=m:=by rw [hn];simp [Ab.last,e]
    rw [← h3,← hmem] at h2;cases h2
  have hn0:n=0:=by rw [hn];simp [Ab.last,hl]
  have hla:(ldAb K L).latest k=vdOf none:=by unfold Ab.latest;rw [hl]
  subst hn0
  simp -implicitDefEqProofs only [op,ef,cl,sq,reduceIte,q3,q5,q6,q7,q8,q9,j1,j2,j3,S1,S2,S3,c1,l1]
  exact ⟨(hx0.trans hx1).set (Nat.le_refl _) _,.nil,by rw [hla];rfl⟩
 obtain ⟨x,hx,hxm⟩:=(fiK_mem hs (k,n)).1 hh
 have hv:=look_at (L:=L) hs hx
 obtain ⟨i,hi⟩:∃ i,i=fiK K (k,n):=⟨_,rfl⟩
 rw [← hi] at hx ⊢
 rw [hxm] at hv
 have hla:(ldAb K L).latest k=x.vd:=by
  unfold Ab.latest
  cases e:(ldAb K L).l k with
  | none =>
   have hn0:n=0:=by rw [hn];simp [Ab.last,e]
   have:=(hw.G _ _ hv).1
   simp only at this;omega
  | some m =>
   have h3:n=m:=by rw [hn];simp [Ab.last,e]
   simp only
   rw [← h3,hv];rfl
 obtain ⟨c,hc,ia,_⟩:=mut_n (enc:=eKd) (n:=5) (fun _=>rfl) (by decide) h1.mK hx
 have r0:ldcB 4 (i*5+0) (some (.cells (msC eKd K)))=some [.str x.nm.1,.int .u64 x.nm.2,.str x.value,.sl x.kk (x.keys.map eS)]:=msC_get (enc:=eKd) (n:=5) (fun _=>rfl) hx 0 4 (by decide)
 rw [hxm] at r0
 simp -implicitDefEqProofs only [op,ef,cl,sq,reduceIte,q3,q5,q6,q7,q8,q9,j1,j2,j3,S1,h1.hp,natOf_nat,ia,hc,r0]
 have hko:=(h.ko x (List.mem_of_getElem? hx)).2
 refine callB_of _ _ _ _ _ _ _ _ (rown33 k n x.value x.kk x.keys (by omega) _) ?_
 rintro u H3 ⟨hx2,kk',hkk,hu⟩
 cases hu
 have hx2:Ext H2 H3:=hx2
 have c2:=hx2.get c1
 have l2:=glt c2
 simp -implicitDefEqProofs only [op,ef,cl,sq,reduceIte,q3,q5,q6,q7,q8,q9,j1,j2,j3,S1,S2,S3,c2,l2]
 exact ⟨((hx0.trans hx1).trans hx2).set (Nat.le_refl _) _,kk',by rw [hla];rfl⟩
theorem rhas58 {H:Heap} {p:Nat} {tK tL:T} {K:List Kd} {L:List Nm} {G:Nat→Prop} (h:RC H p tK tL K L G) (hK:K.length≤8000000) (n:Nat):W env (.call 58 [.ptr p 0,.int .u64 n]) H (Ret (.int .i64 (cntK K n)) H):=by
 have hlen:=len_mut h.mK
 refine W.fnI rfl rfl rfl ?_
 simp -implicitDefEqProofs only [ir58,op,ef,cl,sq,reduceIte,q3,q5,q6,q7,q8,q9,j1,j2,j3,S1]
 refine W.loopV [(0,_),(1,_)] (fun (i:Nat) R H'=>H'=H∧R 5=.int .i64 (cntK (K.take i) n)∧R 6=.int .i64 i∧i≤K.length) (fun i=>K.length-i) 0 ⟨rfl,rfl,rfl,Nat.zero_le _⟩ ?_
 rintro i R H1 ⟨rfl,g5,g6,hi⟩
 by_cases hlt:i<K.length
 ·obtain ⟨x,hx⟩:=getP hlt
  obtain ⟨c,hc,ia,_⟩:=mut_n (enc:=eKd) (n:=5) (fun _=>rfl) (by decide) h.mK hx
  have wsi:=wrap_succ (show i<9223372036854775807 by omega)
  have hcl:=cnt_le (K.take i) n
  rw [List.length_take] at hcl
  have wsc:=wrap_succ (show cntK (K.take i) n<9223372036854775807 by omega)
  have r1:ldcB 1 (i*5+0+1) (some (.cells (msC eKd K)))=some [.int .u64 x.id]:=msC_get (enc:=eKd) (n:=5) (fun _=>rfl) hx 1 1 (by decide)
  have hcn:=cnt_sn (n:=n) hx
  by_cases e:x.id=n
  ·rw [if_pos e] at hcn
   simp -implicitDefEqProofs only [mkR_nil,mkR_cons,op,ef,cl,sq,reduceIte,q3,q5,q6,q7,q8,q9,j1,j2,j3,S1,h.hp,hlen,g5,g6,hlt,natOf_nat,ia,hc,r1,e,wsc,wsi]
   exact ⟨i+1,by omega,by rw [hcn],rfl,hlt⟩
  ·rw [if_neg e] at hcn
   simp -implicitDefEqProofs only [mkR_nil,mkR_cons,op,ef,cl,sq,reduceIte,q3,q5,q6,q7,q8,q9,j1,j2,j3,S1,h.hp,hlen,g5,g6,hlt,natOf_nat,ia,hc,r1,e,wsi]
   exact ⟨i+1,by omega,by rw [hcn];rfl,rfl,hlt⟩
 ·have hie:i=K.length:=by omega
  subst hie
  rw [List.take_length] at g5
  simp -implicitDefEqProofs only [mkR_nil,mkR_cons,op,ef,cl,sq,reduceIte,q3,q5,q6,q7,q8,q9,j1,j2,j3,S1,h.hp,hlen,g5,g6,hlt]
def comd (a:Ab) (n:Nat):Prop:=∀ k,a.has (k,n)=true→¬ a.last k<n
theorem rcomd60 {H:Heap} {p:Nat} {tK tL:T} {K:List Kd} {L:List Nm} {G:Nat→Prop} (h:RC H p tK tL K L G) (hK:K.length≤8000000) (hL:L.length≤8000000) (n:Nat):W env (.call 60 [.ptr p 0,.int .u64 n]) H (fun o H'=>Ext H H'∧∃ t,o=.val (.bool t)∧(t=true↔comd (ldAb K L) n)):=by
 have hlen:=len_mut h.mK
 refine W.fnI rfl rfl rfl ?_
 simp -implicitDefEqProofs only [ir60,op,ef,cl,sq,reduceIte,q3,q5,q6,q7,q8,q9,j1,j2,j3,S1]
 refine W.loopV [(0,_),(1,_)] (fun (i:Nat) R H'=>At H' (fun H'=>Ext H H')∧R 5=.int .i64 i∧i≤K.length∧∀ x∈K.take i,x.id=n→¬ (ldAb K L).last x.key<n) (fun i=>K.length-i) 0 ⟨.i Ext.rfl',rfl,Nat.zero_le _,by simp⟩ ?_
 rintro i R H1 ⟨hx1,g5,hi,hall⟩
 have hx1:Ext H H1:=hx1
 have h1:=h.ext hx1
 by_cases hlt:i<K.length
 ·obtain ⟨x,hx⟩:=getP hlt
  obtain ⟨c,hc,ia,_⟩:=mut_n (enc:=eKd) (n:=5) (fun _=>rfl) (by decide) h1.mK hx
  have wsi:=wrap_succ (show i<9223372036854775807 by omega)
  have r0:ldcB 4 (i*5+0) (some (.cells (msC eKd K)))=some [.str x.key,.int .u64 x.id,.str x.value,.sl x.kk (x.keys.map eS)]:=msC_get (enc:=eKd) (n:=5) (fun _=>rfl) hx 0 4 (by decide)
  obtain ⟨H2,hH2⟩:∃ H2,H2=H1++[B.cells [T.str x.key,.int .u64 x.id,.str x.value,.sl x.kk (x.keys.map eS)]]:=⟨_,rfl⟩
  have hx2:Ext H1 H2:=⟨_,hH2⟩
  have c0:H2[H1.length]?=some (.cells [T.str x.key,.int .u64 x.id,.str x.value,.sl x.kk (x.keys.map eS)]):=by rw [hH2];exact g_tail rfl
  have nxt:(x.id=n→¬ (ldAb K L).last x.key<n)→∀ y∈K.take (i+1),y.id=n→¬ (ldAb K L).last y.key<n:=fun hh y hy=>by
   rw [take_sn hx] at hy
   rcases List.mem_append.1 hy with hy | hy
   ·exact hall y hy
   ·simp -implicitDefEqProofs only [List.mem_singleton] at hy;subst hy;exact hh
  by_cases e:x.id=n
  ·subst e
   simp -implicitDefEqProofs only [mkR_nil,mkR_cons,op,ef,cl,sq,reduceIte,q3,q5,q6,q7,q8,q9,j1,j2,j3,S1,S2,S3,h1.hp,hlen,g5,hlt,natOf_nat,ia,hc,r0]
   rw [← hH2]
   refine callB_of _ _ _ _ _ _ _ _ (rlast56 (h1.ext hx2) hL x.key) ?_
   rintro u H3 ⟨hu,rfl⟩
   cases hu
   by_cases hl:(ldAb K L).last x.key<x.id
   ·simp -implicitDefEqProofs only [mkR_nil,mkR_cons,op,ef,cl,sq,reduceIte,q3,q5,q6,q7,q8,q9,j1,j2,j3,S1,hl]
    refine ⟨hx1.trans hx2,false,rfl,fun hh=>(by cases hh),fun hh=>absurd hl ?_⟩
    refine hh x.key ?_
    rw [← has_mem,memN_iff]
    exact List.mem_map.2 ⟨x,List.mem_of_getElem? hx,rfl⟩
   ·simp -implicitDefEqProofs only [mkR_nil,mkR_cons,op,ef,cl,sq,reduceIte,q3,q5,q6,q7,q8,q9,j1,j2,j3,S1,hl,g5,wsi,c0]
    exact ⟨i+1,by omega,.i (hx1.trans hx2),rfl,hlt,nxt fun _=>hl⟩
  ·simp -implicitDefEqProofs only [mkR_nil,mkR_cons,op,ef,cl,sq,reduceIte,q3,q5,q6,q7,q8,q9,j1,j2,j3,S1,S2,S3,h1.hp,hlen,g5,hlt,natOf_nat,ia,hc,r0,e,wsi]
   rw [← hH2]
   exact ⟨i+1,by omega,.i (hx1.trans hx2),rfl,hlt,nxt fun h=>absurd h e⟩
 ·have hie:i=K.length:=by omega
  subst hie
  rw [List.take_length] at hall
  simp -implicitDefEqProofs only [mkR_nil,mkR_cons,op,ef,cl,sq,reduceIte,q3,q5,q6,q7,q8,q9,j1,j2,j3,S1,h1.hp,hlen,g5,hlt]
  refine ⟨hx1,true,rfl,fun _=>?_,fun _=>rfl⟩
  intro k hk
  rw [← has_mem,memN_iff] at hk
  obtain ⟨x,hx,e⟩:=List.mem_map.1 hk
  have e1:x.key=k:=congrArg Prod.fst e
  have e2:x.id=n:=congrArg Prod.snd e
  rw [← e1];exact hall x hx e2
theorem has57 {b:Bk} {a:Ab} {F:Nat→Prop} {m:Nat} (n:Nat) {H:Heap} (h:AtS H b a F m):W env (.call 57 [.ptr b.s 0,.int .u64 n]) H (fun o H'=>H'=H∧∃ D:List ByteArray,D.Nodup∧(∀ k,k∈D↔a.has (k,n)=true)∧o=.val (.int .i64 D.length)):=by
 obtain ⟨s,⟨im,pm,sa⟩,hi,rfl,h4,h5⟩:=h
 have hm:=(sa.op n).mut
 have hlen:=hm.len
 refine W.fnI rfl rfl rfl ?_
 simp -implicitDefEqProofs only [ir57,op,ef,cl,sq,reduceIte,q3,q5,q6,q7,q8,q9,j1,j2,j3,S1,sa.hs,sa.hp,lkpB_N,hlen]
 refine ⟨s.pls n,hi.pnd n,fun k=>?_,rfl⟩
 rw [hi.plm];simp [Ab.has,absS]
theorem clo84 {b:Bk} {a:Ab} {F:Nat→Prop} {m:Nat} (k:ByteArray) (n c1 c2:Nat) {H:Heap} (h:AtS H b a F m) (h1:H[c1]?=some (.cells [.ptr b.s 0])) (h2:H[c2]?=some (.cells [.int .u64 n])):W env (.call 84 [.str k,.ptr c1 0,.ptr c2 0]) H (Ret (.bool (decide (a.last k<n))) H):=by
 obtain ⟨s,⟨im,pm,sa⟩,hi,rfl,h4,h5⟩:=h
 have hl:=lkp_last s k
 have e:(absS s).last k=lastOf s k:=rfl
 refine W.fnI rfl rfl rfl ?_
 simp -implicitDefEqProofs only [ir84,op,ef,cl,sq,reduceIte,q3,q5,q6,q7,q8,q9,j1,j2,j3,S1,h1,h2,sa.hs,sa.hl,lkpB_M,hl,e]
theorem idx103 {b:Bk} {a:Ab} {F:Nat→Prop} {m:Nat} (t:T) (l:List ByteArray) (n c1 c2:Nat) {H:Heap} (h:AtS H b a F m) (h1:H[c1]?=some (.cells [.ptr b.s 0])) (h2:H[c2]?=some (.cells [.int .u64 n])) (hm:Mut eS 1 0 H t l) (hl:l.length<4611686018427387903) :
  W env (.call 103 [t,.fn 84 [.ptr c1 0,.ptr c2 0]]) H (fun o H'=>H'=H∧(((∀ k∈l,¬ a.last k<n)∧o=.val (.int .i64 (-1)))∨∃ i:Nat,o=.val (.int .i64 i)∧∃ k∈l,a.last k<n)):=by
 refine W.fnI rfl rfl rfl ?_
 have hlen:=hm.len
 simp -implicitDefEqProofs only [ir103,op,ef,cl,sq,reduceIte,q3,q5,q6,q7,q8,q9,j1,j2,j3,S1,hlen]
 refine W.loopV [(0,_),(1,_),(7,_)] (fun (i:Nat) R H'=>H'=H∧R 8=.int .i64 i∧i≤l.length∧∀ k∈l.take i,¬ a.last k<n) (fun i=>l.length-i) 0 ⟨rfl,rfl,Nat.zero_le _,by simp⟩ ?_
 rintro i R H1 ⟨rfl,g8,hi,hno⟩
 by_cases hlt:i<l.length
 ·obtain ⟨y,hy⟩:=getP hlt
  obtain ⟨c,g1,g2,g3⟩:=mut_at (enc:=eS) (fun _=>rfl) hm hy
  have ws:=wrap_succ (show i<9223372036854775807 by omega)
  simp -implicitDefEqProofs only [mkR_nil,mkR_cons,op,ef,cl,sq,reduceIte,q3,q5,q6,q7,q8,q9,j1,j2,j3,S1,g8,hlt,natOf_nat,g1,g2,g3,eS]
  refine b_v _ _ _ _ _ _ _ ?_
  simp -implicitDefEqProofs only [mkR_nil,mkR_cons,op,ef,cl,sq,reduceIte,q3,q5,q6,q7,q8,q9,j1,j2,j3,S1,callvB]
  refine callB_of _ _ _ _ _ _ _ _ (clo84 y n c1 c2 h h1 h2) ?_
  rintro v H' ⟨hv,rfl⟩
  cases hv
  by_cases e:a.last y<n
  ·simp -implicitDefEqProofs only [mkR_nil,mkR_cons,op,ef,cl,sq,reduceIte,q3,q5,q6,q7,q8,q9,j1,j2,j3,S1,e]
   exact .inr ⟨i,rfl,y,List.mem_of_getElem? hy,e⟩
  ·simp -implicitDefEqProofs only [mkR_nil,mkR_cons,op,ef,cl,sq,reduceIte,q3,q5,q6,q7,q8,q9,j1,j2,j3,S1,g8,e,ws]
   refine ⟨i+1,by omega,rfl,hlt,fun k hk=>?_⟩
   rw [take_sn hy] at hk
   rcases List.mem_append.1 hk with hk | hk
   ·exact hno k hk
   ·simp -implicitDefEqProofs only [List.mem_singleton] at hk;subst hk;exact e
 ·have hie:i=l.length:=by omega
  subst hie
  rw [List.take_length] at hno
  simp -implicitDefEqProofs only [mkR_nil,mkR_cons,op,ef,cl,sq,reduceIte,q3,q5,q6,q7,q8,q9,j1,j2,j3,S1,g8,hlt]
  exact .inl hno
theorem comd59 {b:Bk} {a:Ab} {F:Nat→Prop} {m:Nat} (n:Nat) {H:Heap} (h:AtS H b a F m) (hm:m≤8000000):W env (.call 59 [.ptr b.s 0,.int .u64 n]) H (fun o H'=>Ext H H'∧∃ t,o=.val (.bool t)∧(t=true↔comd a n)):=by
 have h':=h
 obtain ⟨s,⟨im,pm,sa⟩,hi,ha,h4,h5⟩:=h
 have hm:=(sa.op n).mut
 have l0:=glt sa.hs
 have lp:=glt sa.hp
 obtain ⟨H1,hH1⟩:∃ H1,H1=H++[B.cells [T.ptr b.s 0]]++[B.cells [T.int .u64 n]]:=⟨_,rfl⟩
 have hx1:Ext H H1:=by rw [hH1];exact (Ext.rfl'.app _).app _
 have c0:H1[H.length]?=some (.cells [T.ptr b.s 0]):=by rw [hH1,g_app (by simp),g_tail rfl]
 have c1:H1[H.length+1]?=some (.cells [T.int .u64 n]):=by rw [hH1];exact g_tail (by simp)
 have s1:=hx1.get sa.hs
 have p1:=hx1.get sa.hp
 refine W.fnI rfl rfl rfl ?_
 simp -implicitDefEqProofs only [ir59,op,ef,cl,sq,reduceIte,q3,q5,q6,q7,q8,q9,j1,j2,j3,S1,S3]
 rw [← hH1]
 simp -implicitDefEqProofs only [op,ef,cl,sq,reduceIte,q3,q5,q6,q7,q8,q9,j1,j2,j3,S1,c0,c1,s1,p1,lkpB_N]
 refine callB_of _ _ _ _ _ _ _ (fun o H'=>H'=H1∧∃ t,o=.val (.bool t)∧(t=true↔¬ comd a n)) ?_ ?_
 ·refine W.fnI rfl rfl rfl ?_
  simp -implicitDefEqProofs only [ir83,op,ef,cl,sq,reduceIte,q3,q5,q6,q7,q8,q9,j1,j2,j3,S1]
  have hbp:=hi.bp n
  refine callB_of _ _ _ _ _ _ _ _ (idx103 _ (s.pls n) n _ _ (h'.ext hx1) c0 c1 (hm.ext hx1) (by omega)) ?_
  have hin:∀ k,k∈s.pls n↔a.has (k,n)=true:=fun k=>by rw [hi.plm,← ha];simp [Ab.has,absS]
  rintro u H2 ⟨rfl,⟨hno,hu⟩ | ⟨i,hu,k,hk,hlt⟩⟩
  ·cases hu
   simp -implicitDefEqProofs only [op,ef,cl,sq,reduceIte,q3,q5,q6,q7,q8,q9,j1,j2,j3,S1]
   exact ⟨false,rfl,fun h=>(by cases h),fun h=>absurd (fun k hk=>hno k ((hin k).2 hk)) h⟩
  ·cases hu
   have hge:(0:Int)≤(i:Int):=by omega
   simp -implicitDefEqProofs only [op,ef,cl,sq,reduceIte,q3,q5,q6,q7,q8,q9,j1,j2,j3,S1,hge]
   exact ⟨true,rfl,fun _ h=>h k ((hin k).1 hk) hlt,fun _=>rfl⟩
 ·rintro u H2 ⟨rfl,t,hu,ht⟩
  cases hu
  simp -implicitDefEqProofs only [op,ef,cl,sq,reduceIte,q3,q5,q6,q7,q8,q9,j1,j2,j3,S1]
  refine ⟨hx1,!t,rfl,?_⟩
  cases t
  ·exact ⟨fun _=>Classical.byContradiction fun h=>(by have:=ht.2 h;cases this),fun _=>rfl⟩
  ·exact ⟨fun h=>(by cases h),fun h=>absurd h (ht.1 rfl)⟩
structure Sd (H:Heap) (q:Nat) (b:Bk) (p:Nat) (a:Ab) (m:Nat) (F G:Nat→Prop) (tK tL:T) (K:List Kd) (L:List Nm):Prop where
 hq:H[q]?=some (.cells [.ptr b.s 0,.ptr p 0])
 at_:AtS H b a F m
 rc:RC H p tK tL K L G
 dis:∀ c,F c→G c→False
 qF:¬ F q
 qG:¬ G q
 lF:∀ c,F c→c<H.length
 lG:∀ c,G c→c<H.length
section
variable {H H':Heap} {q p m m':Nat} {b b':Bk} {a a':Ab} {F F' G G':Nat→Prop} {tK tL tK' tL':T} {K K':List Kd} {L L':List Nm}
theorem Sd.goE (h:Sd H q b p a m F G tK tL K L) (hx:Ext H H'):Sd H' q b p a m F G tK tL K L :=
 ⟨hx.get h.hq,h.at_.ext hx,h.rc.ext hx,h.dis,h.qF,h.qG,fun c hc=>Nat.lt_of_lt_of_le (h.lF c hc) hx.len,fun c hc=>Nat.lt_of_lt_of_le (h.lG c hc) hx.len⟩
theorem Sd.le (h:Sd H q b p a m F G tK tL K L) (hm:m≤m'):Sd H q b p a m' F G tK tL K L:=⟨h.hq,h.at_.le hm,h.rc,h.dis,h.qF,h.qG,h.lF,h.lG⟩
theorem Sd.goS (h:Sd H q b p a m F G tK tL K L) (ha:AtS H' b a' F' m') (hf:Frm F H H') (hg:Gro F F' H H'):Sd H' q b p a' m' F' G tK tL K L:=by
 have lq:=glt h.hq
 refine ⟨hf.get h.hq h.qF,ha,h.rc.frm hf fun c hc _ hF=>h.dis c hF hc,fun c hF hG=>?_,fun hF=>?_,h.qG,fun c hc=>?_,fun c hc=>Nat.lt_of_lt_of_le (h.lG c hc) hf.1⟩
 ·rcases hg c hF with h1 | h1
  ·exact h.dis c h1 hG
  ·have:=h.lG c hG;omega
 ·rcases hg q hF with h1 | h1
  ·exact h.qF h1
  ·omega
 ·rcases hg c hc with h1 | h1
  ·have:=h.lF c h1;have:=hf.1;omega
  ·exact h1.2
theorem Sd.goR (h:Sd H q b p a m F G tK tL K L) (hr:RC H' p tK' tL' K' L' G') (hf:Frm G H H') (hg:Gro G G' H H'):Sd H' q b p a m F G' tK' tL' K' L':=by
 have lq:=glt h.hq
 refine ⟨hf.get h.hq h.qG,h.at_.frm hf fun c hF _ hG=>h.dis c hF hG,hr,fun c hF hG=>?_,h.qF,fun hF=>?_,fun c hc=>Nat.lt_of_lt_of_le (h.lF c hc) hf.1,fun c hc=>?_⟩
 ·rcases hg c hG with h1 | h1
  ·exact h.dis c hF h1
  ·have:=h.lF c hF;omega
 ·rcases hg q hF with h1 | h1
  ·exact h.qG h1
  ·omega
 ·rcases hg c hc with h1 | h1
  ·have:=h.lG c h1;have:=hf.1;omega
  ·exact h1.2
end
structure RfA (a:Ab) (K:List Kd) (L:List Nm):Prop where
 up:keptUp K
 lu:lastsUp L
 ab:ldAb K L=a
 w:AbW a
section
variable {a:Ab} {K:List Kd} {L:List Nm}
theorem RfA.names (h:RfA a K L):Names a (K.map Kd.nm):=⟨List.pairwise_map.2 h.up,fun m=>by
 rw [← memN_iff,has_mem (L:=L),h.ab]⟩
theorem RfA.enc (h:RfA a K L) (hk:∀ x∈K,x.kk=.arg):K.map eKd=(K.map Kd.nm).map (eKA a):=by
 rw [List.map_map]
 refine List.map_congr_left fun x hx=>?_
 obtain ⟨i,hi,e⟩:=List.getElem_of_mem hx
 have:=look_at (L:=L) h.up (i:=i) (x:=x) (by rw [List.getElem?_eq_getElem hi,e])
 rw [h.ab] at this
 simp -implicitDefEqProofs only [Function.comp,eKA,this,eKd,hk x hx];rfl
theorem RfA.lnames (h:RfA a K L):LNames a (L.map (·.1)):=⟨List.pairwise_map.2 h.lu,fun m=>by
 rw [mem_keys,← h.ab];rfl⟩
theorem RfA.lenc (h:RfA a K L):(L.map (·.1)).map (lnm a)=L:=by
 rw [List.map_map]
 refine (List.map_congr_left fun x hx=>?_).trans (List.map_id _)
 have h1:=mlook_of h.lu.nd hx
 have h2:a.last x.1=x.2:=by
  rw [← h.ab]
  show (mlook L x.1).getD 0=x.2
  rw [h1];rfl
 simp -implicitDefEqProofs only [Function.comp,lnm,h2];rfl
theorem RfA.len (h:RfA a K L) {H:Heap} {b:Bk} {F:Nat→Prop} {m:Nat} (hs:AtS H b a F m):K.length≤m:=by
 obtain ⟨l,hn,hl⟩:=hs.names
 have:=hn.uniq h.names
 subst this
 simpa using hl
theorem RfA.llen (h:RfA a K L):L.length≤K.length:=by
 have hnd:L.Nodup:=(List.pairwise_map.1 h.lu.nd).imp fun {a b} h e=>h (by rw [e])
 have:=nd_le (l:=L) (l':=K.map Kd.nm) hnd fun e he=>by
  have h1:=mlook_of h.lu.nd he
  have h2:a.l e.1=some e.2:=by rw [← h.ab];exact h1
  rw [← memN_iff,has_mem (L:=L),h.ab]
  exact h.w.L _ _ h2
 simpa using this
end
theorem all26 {H:Heap} {q p m:Nat} {b:Bk} {a:Ab} {F G:Nat→Prop} {tK tL:T} {K:List Kd} {L:List Nm} (h:Sd H q b p a m F G tK tL K L) (hr:RfA a K L) (hm:m≤3000000):W env (.call 26 [.ptr q 0]) H (RetG (.bool true) H):=by
 have hK:=hr.len h.at_
 have hL:=hr.llen
 refine W.fnI rfl rfl rfl ?_
 simp -implicitDefEqProofs only [ir26,op,ef,cl,sq,reduceIte,q3,q5,q6,q7,q8,q9,j1,j2,j3,S1,h.hq]
 refine callB_of _ _ _ _ _ _ _ _ (keptA h.at_ (by omega)) ?_
 rintro u H1 ⟨hx1,ka,l,hka,hn,hlm,hu⟩
 cases hu
 have hx1:Ext H H1:=hx1
 have hl:=hn.uniq hr.names
 subst hl
 simp -implicitDefEqProofs only [op,ef,cl,sq,reduceIte,q3,q5,q6,q7,q8,q9,j1,j2,j3,S1,(h.goE hx1).hq]
 refine callB_of _ _ _ _ _ _ _ _ (rkept11 (h.rc.ext hx1) (by omega)) ?_
 rintro u H2 ⟨hx2,kb,hkb,hu⟩
 cases hu
 have hx2:Ext H1 H2:=hx2
 have h2:=h.goE (hx1.trans hx2)
 have q1:=(h.goE hx1).hq
 have q2:=h2.hq
 rw [hr.enc fun x hx=>(h.rc.ko x hx).1]
 simp -implicitDefEqProofs only [op,ef,cl,sq,reduceIte,q3,q5,q6,q7,q8,q9,j1,j2,j3,S1,q1,q2]
 refine callB_of _ _ _ _ _ _ _ _ (sameK27 ka kb a (K.map Kd.nm) (by rw [List.length_map];omega) h.at_.keys _) ?_
 rintro u H3 ⟨hu,hx3⟩
 cases hu
 have hx3:Ext H2 H3:=hx3
 have h3:=h2.goE hx3
 simp -implicitDefEqProofs only [op,ef,cl,sq,reduceIte,q3,q5,q6,q7,q8,q9,j1,j2,j3,S1,h3.hq]
 refine callB_of _ _ _ _ _ _ _ _ (lastsA2 h3.at_ (by omega) hr.w.L) ?_
 rintro u H4 ⟨hx4,kc,l,hkc,hn,hlm,hu⟩
 cases hu
 have hx4:Ext H3 H4:=hx4
 have hl:=hn.uniq hr.lnames
 subst hl
 rw [hr.lenc]
 have h4:=h3.goE hx4
 simp -implicitDefEqProofs only [op,ef,cl,sq,reduceIte,q3,q5,q6,q7,q8,q9,j1,j2,j3,S1,h4.hq]
 refine callB_of _ _ _ _ _ _ _ _ (rlasts14 h4.rc (by omega)) ?_
 rintro u H5 ⟨hx5,kd,hkd,hu⟩
 cases hu
 have hx5:Ext H4 H5:=hx5
 have h5:=h4.goE hx5
 simp -implicitDefEqProofs only [op,ef,cl,sq,reduceIte,q3,q5,q6,q7,q8,q9,j1,j2,j3,S1,h5.hq]
 refine callB_of _ _ _ _ _ _ _ _ (slasts23 kc kd L _ (by omega)) ?_
 rintro u H6 ⟨hu,hx6⟩
 cases hu
 rw [hx6]
 simp -implicitDefEqProofs only [op,ef,cl,sq,reduceIte,q3,q5,q6,q7,q8,q9,j1,j2,j3,S1,retg_ext ((((hx1.trans hx2).trans hx3).trans hx4).trans hx5)]
theorem comNo {p:Nat} (n:Nat) (now:Int) {H:Heap} (hm:¬ (65536≤n∧TickOk now)):W env (.call 19 [.ptr p 0,.int .u64 n,.int .i64 now]) H (fun o H'=>o=.val (.tup [.int .i64 0,.int .i64 1])∧H'=H):=by
 refine W.fnI rfl rfl rfl ?_
 by_cases hn:n<65536
 ·simp -implicitDefEqProofs only [ir19,op,ef,cl,sq,reduceIte,q3,q5,q6,q7,q8,q9,j1,j2,j3,S1,hn]
 ·simp -implicitDefEqProofs only [ir19,op,ef,cl,sq,reduceIte,q3,q5,q6,q7,q8,q9,j1,j2,j3,S1,hn]
  refine callB_of _ _ _ _ _ _ _ _ (tick31 now _) ?_
  rintro u H2 ⟨hu,rfl⟩
  cases hu
  have hf:(decide (0≤now)&&decide (now≤1099511627776))=false:=by
   rw [Bool.and_eq_false_iff,decide_eq_false_iff_not,decide_eq_false_iff_not]
   have:¬ TickOk now:=fun h=>hm ⟨by omega,h⟩
   unfold TickOk at this;omega
  simp -implicitDefEqProofs only [op,ef,cl,sq,reduceIte,q3,q5,q6,q7,q8,q9,j1,j2,j3,S1,hf]
theorem rcomNo {p:Nat} (n:Nat) (now:Int) {H:Heap} (hm:¬ (65536≤n∧TickOk now)):W env (.call 52 [.ptr p 0,.int .u64 n,.int .i64 now]) H (fun o H'=>o=.val (.tup [.int .i64 0,.int .i64 1])∧H'=H):=by
 refine W.fnI rfl rfl rfl ?_
 simp -implicitDefEqProofs only [ir52,op,ef,cl,sq,reduceIte,q3,q5,q6,q7,q8,q9,j1,j2,j3,S1]
 refine callB_of _ _ _ _ _ _ _ _ (rid68 n _) ?_
 rintro u H1 ⟨hu,rfl⟩
 cases hu
 by_cases hn:n<65536
 ·have hd:decide (65536≤n)=false:=decide_eq_false (by omega)
  simp -implicitDefEqProofs only [op,ef,cl,sq,reduceIte,q3,q5,q6,q7,q8,q9,j1,j2,j3,S1,hd]
 ·have hd:decide (65536≤n)=true:=decide_eq_true (by omega)
  simp -implicitDefEqProofs only [op,ef,cl,sq,reduceIte,q3,q5,q6,q7,q8,q9,j1,j2,j3,S1,hd]
  refine callB_of _ _ _ _ _ _ _ _ (rtick71 now _) ?_
  rintro u H2 ⟨hu,rfl⟩
  cases hu
  have hf:(decide (0≤now)&&decide (now≤1099511627776))=false:=by
   rw [Bool.and_eq_false_iff,decide_eq_false_iff_not,decide_eq_false_iff_not]
   have:¬ TickOk now:=fun h=>hm ⟨by omega,h⟩
   unfold TickOk at this;omega
  simp -implicitDefEqProofs only [op,ef,cl,sq,reduceIte,q3,q5,q6,q7,q8,q9,j1,j2,j3,S1,hf]
theorem cnt_D {a:Ab} {K:List Kd} {L:List Nm} (hu:keptUp K) (hab:ldAb K L=a) (n:Nat) {D:List ByteArray} (hd:D.Nodup) (hD:∀ k,k∈D↔a.has (k,n)=true):D.length=cntK K n:=by
 have hf:∀ k,k∈(K.filter fun x=>decide (x.id=n)).map Kd.key↔k∈D:=fun k=>by
  rw [hD,← hab,← has_mem (K:=K),memN_iff]
  simp -implicitDefEqProofs only [List.mem_map,List.mem_filter,decide_eq_true_eq]
  constructor
  ·rintro ⟨x,⟨hx,e⟩,rfl⟩;exact ⟨x,hx,by rw [← e];rfl⟩
  ·rintro ⟨x,hx,e⟩;exact ⟨x,⟨hx,congrArg Prod.snd e⟩,congrArg Prod.fst e⟩
 have hnd:((K.filter fun x=>decide (x.id=n)).map Kd.key).Nodup:=by
  refine List.pairwise_map.2 ?_
  have h1:=(List.pairwise_map.1 hu.nd).sublist (List.filter_sublist (p:=fun x=>decide (x.id=n)) (l:=K))
  refine h1.imp_of_mem fun {x y} hx hy hne e=>hne ?_
  have e1:=(List.mem_filter.1 hx).2
  have e2:=(List.mem_filter.1 hy).2
  simp -implicitDefEqProofs only [decide_eq_true_eq] at e1 e2
  exact Prod.ext e (by show x.id=y.id;rw [e1,e2])
 have h1:=nd_le hnd fun x hx=>(hf x).1 hx
 have h2:=nd_le hd fun x hx=>(hf x).2 hx
 rw [List.length_map] at h1 h2
 unfold cntK;omega
structure OpV where
 kind:Int
 id:Nat
 key:ByteArray
 pk:SK
 pairs:List (ByteArray × ByteArray)
 kk:SK
 keys:List ByteArray
 now:Int
def eO (o:OpV):List T:=[.int .i64 o.kind,.int .u64 o.id,.str o.key,.sl o.pk (o.pairs.map eP),.sl o.kk (o.keys.map eS),.int .i64 o.now]
def OpOk (o:OpV):Prop:=KOk o.kk o.keys∧o.keys.length≤1048576
def PlayQ (q p m:Nat):Out→Heap→Prop:=fun u H'=>u=.val (.bool true)∧∃ b a F G tK tL K L,Sd H' q b p a m F G tK tL K L∧RfA a K L
section
variable {H:Heap} {q p m:Nat} {b:Bk} {a:Ab} {F G:Nat→Prop} {tK tL:T} {K:List Kd} {L:List Nm}
set_option maxHeartbeats 1000000 in
theorem play1 (o:OpV) (ho:OpOk o) (h:Sd H q b p a m F G tK tL K L) (hr:RfA a K L) (hm:m+o.pairs.length≤2000000) (hk:o.kind=1):W env (.call 25 [.ptr q 0,.agg (eO o)]) H (PlayQ q p (m+o.pairs.length)):=by
 obtain ⟨H0,hH0⟩:∃ H0,H0=H++[B.cells (eO o)]:=⟨_,rfl⟩
 have hx0:Ext H H0:=⟨_,hH0⟩
 have c0:H0[H.length]?=some (.cells (eO o)):=by rw [hH0];exact g_tail rfl
 have h0:=h.goE hx0
 have lq:=glt h.hq
 have nF:¬ F H.length:=fun hf=>by have:=h.lF _ hf;omega
 have nG:¬ G H.length:=fun hf=>by have:=h.lG _ hf;omega
 have e1:(o.kind==1)=true:=by simp [hk]
 have hK:=hr.len h.at_
 have hL:=hr.llen
 simp -implicitDefEqProofs only [eO] at hH0 c0
 refine W.fnI rfl rfl rfl ?_
 simp -implicitDefEqProofs only [ir25,eO,op,ef,cl,sq,reduceIte,q3,q5,q6,q7,q8,q9,j1,j2,j3,S1,S2,S3,h.hq,lq,e1]
 rw [← hH0]
 by_cases hmay:MayP o.id o.pairs o.keys∧TickOk o.now
 rotate_left
 ·refine callB_of _ _ _ _ _ _ _ _ (putNo o.id o.pk o.kk o.pairs o.keys o.now h0.at_ (by omega) (by have:=ho.2;omega) hmay) ?_
  rintro u H1 ⟨hu,hx1⟩
  cases hu
  have h1:=h0.goE hx1
  have c1:=hx1.get c0
  simp -implicitDefEqProofs only [op,ef,cl,sq,reduceIte,q3,q5,q6,q7,q8,q9,j1,j2,j3,S1,h1.hq,c1]
  refine callB_of _ _ _ _ _ _ _ _ (rputNo o.id o.pk o.kk o.pairs o.keys o.now (by omega) (by have:=ho.2;omega) hmay) ?_
  rintro u H2 ⟨hu,hx2⟩
  cases hu
  have h2:=h1.goE hx2
  simp -implicitDefEqProofs only [op,ef,cl,sq,reduceIte,q3,q5,q6,q7,q8,q9,j1,j2,j3,S1]
  exact ⟨rfl,b,a,F,G,tK,tL,K,L,h2.le (by omega),hr⟩
 ·refine callB_of _ _ _ _ _ _ _ _ (putA o.id o.pk o.kk o.pairs o.keys o.now h0.at_ (by omega) ho.1 hmay.1 hmay.2) ?_
  rintro u H1 ⟨F',hu,a1,f1,g1⟩
  cases hu
  have h1:=h0.goS a1 f1 g1
  have c1:=f1.get c0 nF
  simp -implicitDefEqProofs only [op,ef,cl,sq,reduceIte,q3,q5,q6,q7,q8,q9,j1,j2,j3,S1,h1.hq,c1]
  refine callB_of _ _ _ _ _ _ _ _ (rput51 h1.rc hr.up o.id o.pk o.kk o.pairs o.keys o.now (by omega) (by omega) hmay.1 hmay.2) ?_
  rintro u H2 ⟨hu,tK',K',G',pr⟩
  cases hu
  have h2:=h1.goR pr.rc pr.frm pr.gro
  rw [hr.ab]
  simp -implicitDefEqProofs only [op,ef,cl,sq,reduceIte,q3,q5,q6,q7,q8,q9,j1,j2,j3,S1]
  exact ⟨rfl,b,_,F',G',tK',tL,K',L,h2,pr.up,hr.lu,by rw [pr.ab,hr.ab],hr.w.put hmay.1 hmay.2⟩
set_option maxHeartbeats 1000000 in
theorem play2 (o:OpV) (ho:OpOk o) (h:Sd H q b p a m F G tK tL K L) (hr:RfA a K L) (hm:m+o.pairs.length≤2000000) (hk:o.kind=2):W env (.call 25 [.ptr q 0,.agg (eO o)]) H (PlayQ q p (m+o.pairs.length)):=by
 obtain ⟨H0,hH0⟩:∃ H0,H0=H++[B.cells (eO o)]:=⟨_,rfl⟩
 have hx0:Ext H H0:=⟨_,hH0⟩
 have c0:H0[H.length]?=some (.cells (eO o)):=by rw [hH0];exact g_tail rfl
 have h0:=h.goE hx0
 have lq:=glt h.hq
 have nF:¬ F H.length:=fun hf=>by have:=h.lF _ hf;omega
 have nG:¬ G H.length:=fun hf=>by have:=h.lG _ hf;omega
 have e1:(o.kind==1)=false:=by simp [hk]
 have e2:(o.kind==2)=true:=by simp [hk]
 have hK:=hr.len h.at_
 have hL:=hr.llen
 simp -implicitDefEqProofs only [eO] at hH0 c0
 refine W.fnI rfl rfl rfl ?_
 simp -implicitDefEqProofs only [ir25,eO,op,ef,cl,sq,reduceIte,q3,q5,q6,q7,q8,q9,j1,j2,j3,S1,S2,S3,h.hq,lq,e1,e2]
 rw [← hH0]
 by_cases hmay:65536≤o.id∧TickOk o.now
 rotate_left
 ·refine callB_of _ _ _ _ _ _ _ _ (comNo o.id o.now hmay) ?_
  rintro u H1 ⟨hu,rfl⟩
  cases hu
  simp -implicitDefEqProofs only [op,ef,cl,sq,reduceIte,q3,q5,q6,q7,q8,q9,j1,j2,j3,S1,h0.hq,c0]
  refine callB_of _ _ _ _ _ _ _ _ (rcomNo o.id o.now hmay) ?_
  rintro u H2 ⟨hu,rfl⟩
  cases hu
  simp -implicitDefEqProofs only [op,ef,cl,sq,reduceIte,q3,q5,q6,q7,q8,q9,j1,j2,j3,S1]
  exact ⟨rfl,b,a,F,G,tK,tL,K,L,h0.le (by omega),hr⟩
 ·refine callB_of _ _ _ _ _ _ _ _ (comA o.id o.now h0.at_ (by omega) hmay.1 hmay.2) ?_
  rintro u H1 ⟨D,hd,hD,hu,a1,f1⟩
  cases hu
  have h1:=h0.goS a1 f1 (Gro.refl _ _ _)
  have c1:=f1.get c0 nF
  have hcnt:=cnt_D hr.up hr.ab o.id hd hD
  simp -implicitDefEqProofs only [op,ef,cl,sq,reduceIte,q3,q5,q6,q7,q8,q9,j1,j2,j3,S1,h1.hq,c1]
  refine callB_of _ _ _ _ _ _ _ _ (rcommit52 h1.rc hr.up hr.lu (by rw [hr.ab];exact hr.w.S) (by omega) (by omega) o.id o.now hmay.1 hmay.2) ?_
  rintro u H2 ⟨hu,tL',K',L',G',rc,ku,lu,hab,hlen,f2,g2⟩
  cases hu
  have h2:=h1.goR rc f2 g2
  simp -implicitDefEqProofs only [op,ef,cl,sq,reduceIte,q3,q5,q6,q7,q8,q9,j1,j2,j3,S1,hcnt]
  exact ⟨rfl,b,_,F,G',tK,tL',K',L',h2.le (by omega),ku,lu,by rw [hab,hr.ab],hr.w.com hmay.2⟩
set_option maxHeartbeats 1000000 in
theorem play3 (o:OpV) (ho:OpOk o) (h:Sd H q b p a m F G tK tL K L) (hr:RfA a K L) (hm:m+o.pairs.length≤2000000) (hk:o.kind=3):W env (.call 25 [.ptr q 0,.agg (eO o)]) H (PlayQ q p (m+o.pairs.length)):=by
 obtain ⟨H0,hH0⟩:∃ H0,H0=H++[B.cells (eO o)]:=⟨_,rfl⟩
 have hx0:Ext H H0:=⟨_,hH0⟩
 have c0:H0[H.length]?=some (.cells (eO o)):=by rw [hH0];exact g_tail rfl
 have h0:=h.goE hx0
 have lq:=glt h.hq
 have nF:¬ F H.length:=fun hf=>by have:=h.lF _ hf;omega
 have e1:(o.kind==1)=false:=by simp [hk]
 have e2:(o.kind==2)=false:=by simp [hk]
 have e3:(o.kind==3)=true:=by simp [hk]
 have hK:=hr.len h.at_
 have hL:=hr.llen
 have hS:=fun d=>hr.w.S (o.key,o.id) d
 simp -implicitDefEqProofs only [eO] at hH0 c0
 refine W.fnI rfl rfl rfl ?_
 simp -implicitDefEqProofs only [ir25,eO,op,ef,cl,sq,reduceIte,q3,q5,q6,q7,q8,q9,j1,j2,j3,S1,S2,S3,h.hq,lq,e1,e2,e3]
 rw [← hH0]
 have nodrop:∀ {H1:Heap},a.drp (o.key,o.id)=a→Sd H1 q b p a m F G tK tL K L→PlayQ q p (m+o.pairs.length) (.val (.bool true)) H1:=fun _ h1=>⟨rfl,b,a,F,G,tK,tL,K,L,h1.le (by omega),hr⟩
 refine callB_of _ _ _ _ _ _ _ _ (dropA o.key o.id h0.at_ (by omega)) ?_
 rintro u H1 hq
 have e0:(ldAb K L).v=a.v:=by rw [hr.ab]
 have el:(ldAb K L).last=a.last:=by rw [hr.ab]
 have eh:∀ x,(ldAb K L).has x=a.has x:=fun x=>by rw [hr.ab]
 rcases hq with ⟨hv,hu,hx1⟩ | ⟨d,hv,hd,hu,hx1⟩ | ⟨d,hv,hd,hu,a1,f1⟩
 ·cases hu
  have h1:=h0.goE hx1
  have c1:=hx1.get c0
  simp -implicitDefEqProofs only [op,ef,cl,sq,reduceIte,q3,q5,q6,q7,q8,q9,j1,j2,j3,S1,h1.hq,c1]
  refine callB_of _ _ _ _ _ _ _ _ (rdrop53 h1.rc hr.up (by omega) (by omega) o.key o.id) ?_
  rintro u H2 (⟨hv2,hu,hx2⟩ | ⟨hh,_⟩ | ⟨hh,_⟩)
  ·cases hu
   simp -implicitDefEqProofs only [op,ef,cl,sq,reduceIte,q3,q5,q6,q7,q8,q9,j1,j2,j3,S1]
   exact ⟨rfl,b,a,F,G,tK,tL,K,L,(h1.goE hx2).le (by omega),hr⟩
  ·rw [eh] at hh;simp [Ab.has,hv] at hh
  ·rw [eh] at hh;simp [Ab.has,hv] at hh
 ·cases hu
  have h1:=h0.goE hx1
  have c1:=hx1.get c0
  have hnl:=(hS d hv).1 hd
  simp -implicitDefEqProofs only [op,ef,cl,sq,reduceIte,q3,q5,q6,q7,q8,q9,j1,j2,j3,S1,h1.hq,c1]
  refine callB_of _ _ _ _ _ _ _ _ (rdrop53 h1.rc hr.up (by omega) (by omega) o.key o.id) ?_
  rintro u H2 (⟨hv2,_⟩ | ⟨hh,hl2,hu,hx2⟩ | ⟨hh,hl2,_⟩)
  ·rw [e0,hv] at hv2;cases hv2
  ·cases hu
   simp -implicitDefEqProofs only [op,ef,cl,sq,reduceIte,q3,q5,q6,q7,q8,q9,j1,j2,j3,S1]
   exact ⟨rfl,b,a,F,G,tK,tL,K,L,(h1.goE hx2).le (by omega),hr⟩
  ·rw [el] at hl2;exact absurd hl2 hnl
 ·cases hu
  have h1:=h0.goS a1 f1 (Gro.refl _ _ _)
  have c1:=f1.get c0 nF
  have hnl:o.id<a.last o.key:=Decidable.of_not_not fun hh=>hd ((hS d hv).2 hh)
  simp -implicitDefEqProofs only [op,ef,cl,sq,reduceIte,q3,q5,q6,q7,q8,q9,j1,j2,j3,S1,h1.hq,c1]
  refine callB_of _ _ _ _ _ _ _ _ (rdrop53 h1.rc hr.up (by omega) (by omega) o.key o.id) ?_
  rintro u H2 (⟨hv2,_⟩ | ⟨hh,hl2,_⟩ | ⟨hh,hl2,hu,tK',K',G',rc,ku,hab,hlen,f2,g2⟩)
  ·rw [e0,hv] at hv2;cases hv2
  ·rw [el] at hl2;exact absurd hnl hl2
  ·cases hu
   simp -implicitDefEqProofs only [op,ef,cl,sq,reduceIte,q3,q5,q6,q7,q8,q9,j1,j2,j3,S1]
   have hdr:a.drp (o.key,o.id)=a.cut (o.key,o.id):=by simp -implicitDefEqProofs only [Ab.drp,hv,hd,if_false]
   have hw:=hr.w.drp (o.key,o.id)
   rw [hdr] at hw
   exact ⟨rfl,b,_,F,G',tK',tL,K',L,(h1.goR rc f2 g2).le (by omega),ku,hr.lu,by rw [hab,hr.ab],hw⟩
end
section
variable {H:Heap} {q p m:Nat} {b:Bk} {a:Ab} {F G:Nat→Prop} {tK tL:T} {K:List Kd} {L:List Nm}
set_option maxHeartbeats 1000000 in
theorem play4 (o:OpV) (ho:OpOk o) (h:Sd H q b p a m F G tK tL K L) (hr:RfA a K L) (hm:m+o.pairs.length≤2000000) (hk:o.kind=4):W env (.call 25 [.ptr q 0,.agg (eO o)]) H (PlayQ q p (m+o.pairs.length)):=by
 obtain ⟨H0,hH0⟩:∃ H0,H0=H++[B.cells (eO o)]++[B.cells [.str ⟨#[]⟩,.int .u64 0,.str ⟨#[]⟩,.sl .nil []]]:=⟨_,rfl⟩
 have hx0:Ext H H0:=by rw [hH0];exact (Ext.rfl'.app _).app _
 have c0:H0[H.length]?=some (.cells (eO o)):=by rw [hH0,g_app (by simp),g_tail rfl]
 have d0:H0[H.length+1]?=some (.cells [.str ⟨#[]⟩,.int .u64 0,.str ⟨#[]⟩,.sl .nil []]):=by rw [hH0];exact g_tail (by simp)
 have h0:=h.goE hx0
 have lq:=glt h.hq
 have e1:(o.kind==1)=false:=by simp [hk]
 have e2:(o.kind==2)=false:=by simp [hk]
 have e3:(o.kind==3)=false:=by simp [hk]
 have e4:(o.kind==4)=true:=by simp [hk]
 have hK:=hr.len h.at_
 have hL:=hr.llen
 simp -implicitDefEqProofs only [eO] at hH0 c0
 refine W.fnI rfl rfl rfl ?_
 simp -implicitDefEqProofs only [ir25,eO,op,ef,cl,sq,reduceIte,q3,q5,q6,q7,q8,q9,j1,j2,j3,S1,S2,S3,h.hq,lq,e1,e2,e3,e4]
 rw [← hH0]
 refine callB_of _ _ _ _ _ _ _ _ (byIDA o.key o.id h0.at_) ?_
 rintro u H1 ⟨hx1,hq1⟩
 have hx1:Ext H0 H1:=hx1
 have h1:=h0.goE hx1
 have c1:=hx1.get c0
 have d1:=hx1.get d0
 have l1:=glt d1
 have lc1:=glt c1
 have lq1:=glt h1.hq
 obtain ⟨v1,er,hu,hv⟩:∃ v1 er,u=.tup [.agg v1,.int .i64 er]∧((a.v (o.key,o.id)=none∧v1=eVer ⟨#[]⟩ 0 ⟨#[]⟩ .nil []∧er=110)∨∃ d kk,a.v (o.key,o.id)=some d∧d.keys.length≤1024∧v1=eVer o.key o.id d.value kk d.keys∧er=0):=by
  rcases hq1 with ⟨hv,hu⟩ | ⟨d,kk,hv,_,hu⟩
  ·cases hu;exact ⟨_,_,rfl,.inl ⟨hv,rfl,rfl⟩⟩
  ·cases hu
   have:=h.at_.keys (o.key,o.id)
   rw [hv] at this
   exact ⟨_,_,rfl,.inr ⟨d,kk,hv,this,rfl,rfl⟩⟩
 have hlen1:∃ x y z w,v1=[x,y,z,w]:=by
  rcases hv with ⟨_,rfl,_⟩ | ⟨d,kk,_,_,rfl,_⟩ <;> exact ⟨_,_,_,_,rfl⟩
 obtain ⟨x,y,z,w,hxyz⟩:=hlen1
 subst hu
 obtain ⟨H2,hH2⟩:∃ H2,H2=H1.set (H.length+1) (B.cells [x,y,z,w])++[B.cells [.str ⟨#[]⟩,.int .u64 0,.str ⟨#[]⟩,.sl .nil []]]:=⟨_,rfl⟩
 have hx2:Ext H H2:=by rw [hH2];exact ((hx0.trans hx1).set (by omega) _).app _
 have h2:=h.goE hx2
 have c2:H2[H.length]?=some (.cells (eO o)):=by rw [hH2,g_app (by rw [List.length_set];omega),g_ne (by omega)];exact c1
 have d2:H2[H.length+1]?=some (.cells [x,y,z,w]):=by rw [hH2,g_app (by rw [List.length_set];omega),g_eq l1]
 have f2:H2[H1.length]?=some (.cells [.str ⟨#[]⟩,.int .u64 0,.str ⟨#[]⟩,.sl .nil []]):=by rw [hH2];exact g_tail (by simp)
 have cs1:∀ X,(H1.set (H.length+1) X)[H.length]?=some (.cells (eO o)):=fun X=>by rw [g_ne (by omega)];exact c1
 have qs1:∀ X,(H1.set (H.length+1) X)[q]?=some (.cells [.ptr b.s 0,.ptr p 0]):=fun X=>by rw [g_ne (by omega)];exact h1.hq
 simp -implicitDefEqProofs only [eO] at cs1 c2
 simp -implicitDefEqProofs only [hxyz,op,ef,cl,sq,reduceIte,q3,q5,q6,q7,q8,q9,j1,j2,j3,S1,S2,S3,h1.hq,c1,d1,l1,cs1,qs1,List.length_set]
 rw [← hH2]
 refine callB_of _ _ _ _ _ _ _ _ (rbyID54 h2.rc hr.up (by omega) o.key o.id) ?_
 rintro u H3 ⟨hx3,hq3⟩
 have hx3:Ext H2 H3:=hx3
 have h3:=h2.goE hx3
 have d3:=hx3.get d2
 have f3:=hx3.get f2
 have l3:=glt f3
 have hlt3:=glt d2
 have ds3:∀ X,(H3.set H1.length X)[H.length+1]?=some (.cells [x,y,z,w]):=fun X=>by rw [g_ne (by omega)];exact d3
 have e0:(ldAb K L).v=a.v:=by rw [hr.ab]
 rw [e0] at hq3
 have hxs:∀ X,Ext H (H3.set H1.length X):=fun X=>(hx2.trans hx3).set (by have:=(hx0.trans hx1).len;omega) _
 rcases hv with ⟨hv,rfl,rfl⟩ | ⟨d,kk,hv,hdk,rfl,rfl⟩
 ·rcases hq3 with ⟨_,hu⟩ | ⟨d',kk',hv',hu⟩
  ·cases hu
   simp -implicitDefEqProofs only [op,ef,cl,sq,reduceIte,q3,q5,q6,q7,q8,q9,j1,j2,j3,S1,S2,S3,d3,f3,l3,ds3]
   rw [← hxyz]
   refine callB_of _ _ _ _ _ _ _ _ (same22 ⟨#[]⟩ 0 ⟨#[]⟩ .nil .nil [] _ (by simp)) ?_
   rintro u H4 ⟨hu,hx4⟩
   cases hu
   simp -implicitDefEqProofs only [op,ef,cl,sq,reduceIte,q3,q5,q6,q7,q8,q9,j1,j2,j3,S1]
   exact ⟨rfl,b,a,F,G,tK,tL,K,L,(h.goE ((hxs _).trans hx4)).le (by omega),hr⟩
  ·rw [hv] at hv';cases hv'
 ·rcases hq3 with ⟨hv',_⟩ | ⟨d',kk',hv',hu⟩
  ·rw [hv] at hv';cases hv'
  ·rw [hv] at hv';cases hv'
   cases hu
   simp -implicitDefEqProofs only [eVer,op,ef,cl,sq,reduceIte,q3,q5,q6,q7,q8,q9,j1,j2,j3,S1,S2,S3,d3,f3,l3,ds3]
   rw [← hxyz]
   refine callB_of _ _ _ _ _ _ _ _ (same22 o.key o.id d.value kk kk' d.keys _ (by omega)) ?_
   rintro u H4 ⟨hu,hx4⟩
   cases hu
   simp -implicitDefEqProofs only [op,ef,cl,sq,reduceIte,q3,q5,q6,q7,q8,q9,j1,j2,j3,S1]
   exact ⟨rfl,b,a,F,G,tK,tL,K,L,(h.goE ((hxs _).trans hx4)).le (by omega),hr⟩
set_option maxHeartbeats 1000000 in
theorem play5 (o:OpV) (ho:OpOk o) (h:Sd H q b p a m F G tK tL K L) (hr:RfA a K L) (hm:m+o.pairs.length≤2000000) (hk:o.kind=5):W env (.call 25 [.ptr q 0,.agg (eO o)]) H (PlayQ q p (m+o.pairs.length)):=by
 obtain ⟨H0,hH0⟩:∃ H0,H0=H++[B.cells (eO o)]:=⟨_,rfl⟩
 have hx0:Ext H H0:=⟨_,hH0⟩
 have c0:H0[H.length]?=some (.cells (eO o)):=by rw [hH0];exact g_tail rfl
 have h0:=h.goE hx0
 have lq:=glt h.hq
 have e1:(o.kind==1)=false:=by simp [hk]
 have e2:(o.kind==2)=false:=by simp [hk]
 have e3:(o.kind==3)=false:=by simp [hk]
 have e4:(o.kind==4)=false:=by simp [hk]
 have e5:(o.kind==5)=true:=by simp [hk]
 have hK:=hr.len h.at_
 have hL:=hr.llen
 have eab:=hr.ab
 have hlk:(a.latest o.key).keys.length≤8000000:=by
  unfold Ab.latest
  split
  ·simp [vdOf]
  ·rename_i n hn;have:=h.at_.keys (o.key,n);exact Nat.le_trans this (by omega)
 simp -implicitDefEqProofs only [eO] at hH0 c0
 refine W.fnI rfl rfl rfl ?_
 simp -implicitDefEqProofs only [ir25,eO,op,ef,cl,sq,reduceIte,q3,q5,q6,q7,q8,q9,j1,j2,j3,S1,S2,S3,h.hq,lq,e1,e2,e3,e4,e5]
 rw [← hH0]
 refine callB_of _ _ _ _ _ _ _ _ (latestA o.key h0.at_) ?_
 rintro u H1 ⟨hx1,kk,hkk,hu⟩
 cases hu
 have hx1:Ext H0 H1:=hx1
 have h1:=h0.goE hx1
 have c1:=hx1.get c0
 simp -implicitDefEqProofs only [op,ef,cl,sq,reduceIte,q3,q5,q6,q7,q8,q9,j1,j2,j3,S1,h1.hq,c1]
 refine callB_of _ _ _ _ _ _ _ _ (rlatest55 h1.rc hr.up (by omega) (by omega) (by rw [eab];exact hr.w) o.key) ?_
 rintro u H2 ⟨hx2,kk',hu⟩
 cases hu
 have hx2:Ext H1 H2:=hx2
 have h2:=h1.goE hx2
 have c2:=hx2.get c1
 rw [eab]
 simp -implicitDefEqProofs only [op,ef,cl,sq,reduceIte,q3,q5,q6,q7,q8,q9,j1,j2,j3,S1]
 refine callB_of _ _ _ _ _ _ _ _ (same22 o.key (a.last o.key) (a.latest o.key).value kk kk' (a.latest o.key).keys _ hlk) ?_
 rintro u H3 ⟨hu,hx3⟩
 cases hu
 have hx3:Ext H2 H3:=hx3
 have h3:=h2.goE hx3
 have c3:=hx3.get c2
 simp -implicitDefEqProofs only [op,ef,cl,sq,reduceIte,q3,q5,q6,q7,q8,q9,j1,j2,j3,S1,h3.hq,c3]
 refine callB_of _ _ _ _ _ _ _ _ (lastA o.key h3.at_) ?_
 rintro u H4 ⟨hu,rfl⟩
 cases hu
 simp -implicitDefEqProofs only [op,ef,cl,sq,reduceIte,q3,q5,q6,q7,q8,q9,j1,j2,j3,S1,h3.hq,c3]
 refine callB_of _ _ _ _ _ _ _ _ (rlast56 h3.rc (by omega) o.key) ?_
 rintro u H5 ⟨hu,rfl⟩
 cases hu
 rw [eab]
 simp -implicitDefEqProofs only [op,ef,cl,sq,reduceIte,q3,q5,q6,q7,q8,q9,j1,j2,j3,S1]
 exact ⟨rfl,b,a,F,G,tK,tL,K,L,h3.le (by omega),hr⟩
set_option maxHeartbeats 1000000 in
theorem play6 (o:OpV) (ho:OpOk o) (h:Sd H q b p a m F G tK tL K L) (hr:RfA a K L) (hm:m+o.pairs.length≤2000000) (hk:o.kind=6):W env (.call 25 [.ptr q 0,.agg (eO o)]) H (PlayQ q p (m+o.pairs.length)):=by
 obtain ⟨H0,hH0⟩:∃ H0,H0=H++[B.cells (eO o)]:=⟨_,rfl⟩
 have hx0:Ext H H0:=⟨_,hH0⟩
 have c0:H0[H.length]?=some (.cells (eO o)):=by rw [hH0];exact g_tail rfl
 have h0:=h.goE hx0
 have lq:=glt h.hq
 have e1:(o.kind==1)=false:=by simp [hk]
 have e2:(o.kind==2)=false:=by simp [hk]
 have e3:(o.kind==3)=false:=by simp [hk]
 have e4:(o.kind==4)=false:=by simp [hk]
 have e5:(o.kind==5)=false:=by simp [hk]
 have e6:(o.kind==6)=true:=by simp [hk]
 have hK:=hr.len h.at_
 have hL:=hr.llen
 have eab:=hr.ab
 simp -implicitDefEqProofs only [eO] at hH0 c0
 refine W.fnI rfl rfl rfl ?_
 simp -implicitDefEqProofs only [ir25,eO,op,ef,cl,sq,reduceIte,q3,q5,q6,q7,q8,q9,j1,j2,j3,S1,S2,S3,h.hq,lq,e1,e2,e3,e4,e5,e6]
 rw [← hH0]
 refine callB_of _ _ _ _ _ _ _ _ (has57 o.id h0.at_) ?_
 rintro u H1 ⟨rfl,D,hd,hD,hu⟩
 cases hu
 have hcnt:=cnt_D hr.up hr.ab o.id hd hD
 simp -implicitDefEqProofs only [op,ef,cl,sq,reduceIte,q3,q5,q6,q7,q8,q9,j1,j2,j3,S1,h0.hq,c0]
 refine callB_of _ _ _ _ _ _ _ _ (rhas58 h0.rc (by omega) o.id) ?_
 rintro u H2 ⟨hu,rfl⟩
 cases hu
 simp -implicitDefEqProofs only [op,ef,cl,sq,reduceIte,q3,q5,q6,q7,q8,q9,j1,j2,j3,S1,hcnt,h0.hq,c0]
 refine callB_of _ _ _ _ _ _ _ _ (comd59 o.id h0.at_ (by omega)) ?_
 rintro u H3 ⟨hx3,t,hu,ht⟩
 cases hu
 have hx3:Ext H2 H3:=hx3
 have h3:=h0.goE hx3
 have c3:=hx3.get c0
 simp -implicitDefEqProofs only [op,ef,cl,sq,reduceIte,q3,q5,q6,q7,q8,q9,j1,j2,j3,S1,h3.hq,c3]
 refine callB_of _ _ _ _ _ _ _ _ (rcomd60 h3.rc (by omega) (by omega) o.id) ?_
 rintro u H4 ⟨hx4,t',hu,ht'⟩
 cases hu
 rw [eab] at ht'
 have htt:t'=t:=by rw [Bool.eq_iff_iff,ht,ht']
 subst htt
 have h4:=h3.goE hx4
 simp -implicitDefEqProofs only [op,ef,cl,sq,reduceIte,q3,q5,q6,q7,q8,q9,j1,j2,j3,S1]
 exact ⟨rfl,b,a,F,G,tK,tL,K,L,h4.le (by omega),hr⟩
end
section
variable {H:Heap} {q p m:Nat} {b:Bk} {a:Ab} {F G:Nat→Prop} {tK tL:T} {K:List Kd} {L:List Nm}
set_option maxHeartbeats 1000000 in
theorem play8 (o:OpV) (ho:OpOk o) (h:Sd H q b p a m F G tK tL K L) (hr:RfA a K L) (hm:m+o.pairs.length≤2000000) (hk:o.kind=8):W env (.call 25 [.ptr q 0,.agg (eO o)]) H (PlayQ q p (m+o.pairs.length)):=by
 obtain ⟨H0,hH0⟩:∃ H0,H0=H++[B.cells (eO o)]:=⟨_,rfl⟩
 have hx0:Ext H H0:=⟨_,hH0⟩
 have c0:H0[H.length]?=some (.cells (eO o)):=by rw [hH0];exact g_tail rfl
 have h0:=h.goE hx0
 have lq:=glt h.hq
 have e1:(o.kind==1)=false:=by simp [hk]
 have e2:(o.kind==2)=false:=by simp [hk]
 have e3:(o.kind==3)=false:=by simp [hk]
 have e4:(o.kind==4)=false:=by simp [hk]
 have e5:(o.kind==5)=false:=by simp [hk]
 have e6:(o.kind==6)=false:=by simp [hk]
 have e8:(o.kind==8)=true:=by simp [hk]
 have hK:=hr.len h.at_
 have hL:=hr.llen
 simp -implicitDefEqProofs only [eO] at hH0 c0
 refine W.fnI rfl rfl rfl ?_
 simp -implicitDefEqProofs only [ir25,eO,op,ef,cl,sq,reduceIte,q3,q5,q6,q7,q8,q9,j1,j2,j3,S1,S2,S3,h.hq,lq,e1,e2,e3,e4,e5,e6,e8]
 rw [← hH0]
 refine callB_of _ _ _ _ _ _ _ _ (keptA h0.at_ (by omega)) ?_
 rintro u H1 ⟨hx1,ka,l,hka,hn,hlm,hu⟩
 cases hu
 have hx1:Ext H0 H1:=hx1
 have h1:=h0.goE hx1
 simp -implicitDefEqProofs only [op,ef,cl,sq,reduceIte,q3,q5,q6,q7,q8,q9,j1,j2,j3,S1,h1.hq]
 refine callB_of _ _ _ _ _ _ _ _ (lastsA2 h1.at_ (by omega) hr.w.L) ?_
 rintro u H2 ⟨hx2,kc,ls,hkc,hnl,hlsm,hu⟩
 cases hu
 have hx2:Ext H1 H2:=hx2
 have h2:=h1.goE hx2
 have hkd:l.map (eKA a)=(l.map (kdOf a)).map eKd:=by rw [List.map_map];rfl
 have hlok:=hr.w.load hn hnl
 have hself:=ldAb_self hn hnl
 rw [hkd]
 simp -implicitDefEqProofs only [op,ef,cl,sq,reduceIte,q3,q5,q6,q7,q8,q9,j1,j2,j3,S1]
 refine callB_of _ _ _ _ _ _ _ _ (load26 ka kc (l.map (kdOf a)) (ls.map (lnm a)) (by rw [List.length_map];omega) (by rw [List.length_map];omega) (fun x hx=>by
  obtain ⟨y,hy,rfl⟩:=List.mem_map.1 hx
  exact ⟨fun h=>(by cases h),by have:=h.at_.keys y;simp -implicitDefEqProofs only [kdOf];omega⟩) _) ?_
 rintro u H3 (⟨_,b',F',hu,p3⟩ | ⟨hno,_⟩)
 rotate_left
 ·exact absurd hlok hno
 cases hu
 rw [hself] at p3
 have hx3:=frm_ext p3.frm
 have h3:=h2.goE hx3
 have lq3:=glt h3.hq
 have h4:Sd (H3.set q (.cells [.ptr b'.s 0,.ptr p 0])) q b' p a m F' G tK tL K L:=by
  have hnF:¬ F' q:=fun hf=>by have:=(p3.new _ hf).1;have:=glt h2.hq;omega
  have f4:Frm (fun c=>c=q) H3 (H3.set q (.cells [.ptr b'.s 0,.ptr p 0])):=(Frm.refl (fun c=>c=q) H3).set (.inl rfl) _
  refine ⟨g_eq lq3,(p3.at_.frm f4 fun c hc _ e=>hnF (e ▸ hc)).le (by rw [List.length_map];omega),h3.rc.frm f4 fun c hc _ e=>h.qG (e ▸ hc),fun c hf hg=>?_,hnF,h.qG,fun c hc=>by rw [List.length_set];exact (p3.new c hc).2,fun c hc=>by rw [List.length_set];exact h3.lG c hc⟩
  have:=(p3.new c hf).1
  have:=h2.lG c hg
  omega
 simp -implicitDefEqProofs only [op,ef,cl,sq,reduceIte,q3,q5,q6,q7,q8,q9,j1,j2,j3,S1,eqRef,nilOf,h3.hq,lq3]
 refine callB_of _ _ _ _ _ _ _ _ (all26 h4 hr (by omega)) ?_
 rintro u H5 ⟨hu,hx5⟩
 cases hu
 simp -implicitDefEqProofs only [op,ef,cl,sq,reduceIte,q3,q5,q6,q7,q8,q9,j1,j2,j3,S1]
 exact ⟨rfl,b',a,F',G,tK,tL,K,L,(h4.goE hx5).le (by omega),hr⟩
theorem play0 (o:OpV) (ho:OpOk o) (h:Sd H q b p a m F G tK tL K L) (hr:RfA a K L) (hm:m+o.pairs.length≤2000000) (h1:o.kind≠1) (h2:o.kind≠2) (h3:o.kind≠3) (h4:o.kind≠4) (h5:o.kind≠5) (h6:o.kind≠6) (h8:o.kind≠8):W env (.call 25 [.ptr q 0,.agg (eO o)]) H (PlayQ q p (m+o.pairs.length)):=by
 obtain ⟨H0,hH0⟩:∃ H0,H0=H++[B.cells (eO o)]:=⟨_,rfl⟩
 have hx0:Ext H H0:=⟨_,hH0⟩
 have hh:=h.goE hx0
 have lq:=glt h.hq
 have e1:(o.kind==1)=false:=by simp [h1]
 have e2:(o.kind==2)=false:=by simp [h2]
 have e3:(o.kind==3)=false:=by simp [h3]
 have e4:(o.kind==4)=false:=by simp [h4]
 have e5:(o.kind==5)=false:=by simp [h5]
 have e6:(o.kind==6)=false:=by simp [h6]
 have e8:(o.kind==8)=false:=by simp [h8]
 simp -implicitDefEqProofs only [eO] at hH0
 refine W.fnI rfl rfl rfl ?_
 simp -implicitDefEqProofs only [ir25,eO,op,ef,cl,sq,reduceIte,q3,q5,q6,q7,q8,q9,j1,j2,j3,S1,S2,S3,h.hq,lq,e1,e2,e3,e4,e5,e6,e8]
 rw [← hH0]
 refine callB_of _ _ _ _ _ _ _ _ (all26 hh hr (by omega)) ?_
 rintro u H5 ⟨hu,hx5⟩
 cases hu
 simp -implicitDefEqProofs only [op,ef,cl,sq,reduceIte,q3,q5,q6,q7,q8,q9,j1,j2,j3,S1]
 exact ⟨rfl,b,a,F,G,tK,tL,K,L,(hh.goE hx5).le (by omega),hr⟩
theorem plays25 (o:OpV) (ho:OpOk o) (h:Sd H q b p a m F G tK tL K L) (hr:RfA a K L) (hm:m+o.pairs.length≤2000000):W env (.call 25 [.ptr q 0,.agg (eO o)]) H (PlayQ q p (m+o.pairs.length)):=by
 by_cases h1:o.kind=1
 ·exact play1 o ho h hr hm h1
 by_cases h2:o.kind=2
 ·exact play2 o ho h hr hm h2
 by_cases h3:o.kind=3
 ·exact play3 o ho h hr hm h3
 by_cases h4:o.kind=4
 ·exact play4 o ho h hr hm h4
 by_cases h5:o.kind=5
 ·exact play5 o ho h hr hm h5
 by_cases h6:o.kind=6
 ·exact play6 o ho h hr hm h6
 by_cases h8:o.kind=8
 ·exact play8 o ho h hr hm h8
 exact play0 o ho h hr hm h1 h2 h3 h4 h5 h6 h8
end
def prs (l:List OpV):Nat:=(l.map fun o=>o.pairs.length).sum
theorem prs_sn {l:List OpV} {i:Nat} {o:OpV} (ho:l[i]?=some o):prs (l.take (i+1))=prs (l.take i)+o.pairs.length:=by
 unfold prs;rw [take_sn ho,List.map_append,List.sum_append];simp
theorem prs_le (l:List OpV) (i:Nat):prs (l.take i)≤prs l:=by
 conv=>rhs;rw [← List.take_append_drop i l]
 unfold prs;rw [List.map_append,List.sum_append];omega
set_option maxHeartbeats 1000000 in
theorem plays5 (k:SK) (l:List OpV) (hl:l.length≤8000000) (ho:∀ o∈l,OpOk o) (hp:prs l≤1048576) (H:Heap):W env (.call 5 [.sl k (l.map eO)]) H (fun o _=>o=.val (.bool true)):=by
 refine W.fnI rfl rfl rfl ?_
 simp -implicitDefEqProofs only [ir5,op,ef,cl,sq,reduceIte,q3,q5,q6,q7,q8,q9,j1,j2,j3,S1]
 refine callB_of _ _ _ _ _ _ _ _ (known8 _) ?_
 rintro u H1 ⟨hu,hx1⟩
 cases hu
 simp -implicitDefEqProofs only [op,ef,cl,sq,reduceIte,q3,q5,q6,q7,q8,q9,j1,j2,j3,S1]
 refine callB_of _ _ _ _ _ _ _ _ (newA _) ?_
 rintro u H2 ⟨hx2,b,F,hu,v1,nF⟩
 cases hu
 simp -implicitDefEqProofs only [op,ef,cl,sq,reduceIte,q3,q5,q6,q7,q8,q9,j1,j2,j3,S1]
 refine callB_of _ _ _ _ _ _ _ (fun o H'=>H'=H2++[.cells [.sl .nil [],.sl .nil []]]∧o=.val (.ptr H2.length 0)) ?_ ?_
 ·refine W.fnI rfl rfl rfl ?_
  simp -implicitDefEqProofs only [ir24,op,ef,cl,sq,reduceIte,q3,q5,q6,q7,q8,q9,j1,j2,j3,S1]
 rintro u H3 ⟨hH3,hu⟩
 cases hu
 have hx3:Ext H2 H3:=⟨_,hH3⟩
 obtain ⟨H4,hH4⟩:∃ H4,H4=H3++[B.cells [.ptr b.s 0,.ptr H2.length 0]]:=⟨_,rfl⟩
 have hx4:Ext H3 H4:=⟨_,hH4⟩
 have hl3:H3.length=H2.length+1:=by rw [hH3];simp
 have hl4:H4.length=H2.length+2:=by rw [hH4];simp [hl3]
 have q4:H4[H3.length]?=some (.cells [.ptr b.s 0,.ptr H2.length 0]):=by rw [hH4];exact g_tail rfl
 have sd:Sd H4 H3.length b H2.length Ab.emp 0 F (fun c=>c=H2.length) (.sl .nil []) (.sl .nil []) [] []:=by
  refine ⟨q4,v1.ext (hx3.trans hx4),⟨hx4.get (by rw [hH3];exact g_tail rfl),mut_nil _ _ _ _,mut_nil _ _ _ _,rfl,fun c hc=>(by cases hc),fun c hc=>(by cases hc),fun c hc=>(by cases hc),fun x hx=>(by cases hx)⟩,fun c hf e=>?_,fun hf=>?_,fun e=>?_,fun c hf=>?_,fun c e=>?_⟩
  ·have:=(nF c hf).2;omega
  ·have:=(nF _ hf).2;omega
  ·omega
  ·have:=(nF c hf).2;omega
  ·omega
 have rf:RfA Ab.emp [] []:=⟨List.Pairwise.nil,List.Pairwise.nil,rfl,AbW.emp⟩
 simp -implicitDefEqProofs only [op,ef,cl,sq,reduceIte,q3,q5,q6,q7,q8,q9,j1,j2,j3,S1,S2,S3,eqRef,nilOf]
 obtain ⟨q,hq⟩:∃ q,q=H3.length:=⟨_,rfl⟩
 rw [← hH4,← hq]
 rw [← hq] at sd
 refine W.loopX 0 [(0,_),(3,_)] (fun (i:Nat) R H'=>At H' (fun H'=>∃ b a F G tK tL K L,Sd H' q b H2.length a (prs (l.take i)) F G tK tL K L∧RfA a K L)∧R 4=.int .i64 i∧i≤l.length) (fun i=>l.length-i) 0
  (fun R H'=>At H' (fun H'=>∃ b a F G tK tL K L,Sd H' q b H2.length a (prs l) F G tK tL K L∧RfA a K L)) ⟨.i ⟨_,_,_,_,_,_,_,_,sd,rf⟩,rfl,Nat.zero_le _⟩ ?_ ?_
 ·rintro i R H5 ⟨⟨b,a,F,G,tK,tL,K,L,s5,r5⟩,g4,hi⟩
  by_cases hlt:i<l.length
  ·obtain ⟨o,hoi⟩:=getP hlt
   have io:=iadX (e:=eO) (n:=6) (fun _=>rfl) (by decide) (k:=k) hoi
   have wsi:=wrap_succ (show i<9223372036854775807 by omega)
   have l6:∀ Hx,ldc Hx 6 (.iptr (eO o))=some (eO o):=fun _=>rfl
   have hps:=prs_sn hoi
   have hpl:=prs_le l (i+1)
   simp -implicitDefEqProofs only [mkR_nil,mkR_cons,op,ef,cl,sq,reduceIte,q3,q5,q6,q7,q8,q9,j1,j2,j3,S1,List.length_map,g4,hlt,natOf_nat,io,l6]
   refine callB_of _ _ _ _ _ _ _ _ (plays25 o (ho o (List.mem_of_getElem? hoi)) s5 r5 (by omega)) ?_
   rintro u H6 ⟨hu,b',a',F',G',tK',tL',K',L',s6,r6⟩
   cases hu
   simp -implicitDefEqProofs only [mkR_nil,mkR_cons,op,ef,cl,sq,reduceIte,q3,q5,q6,q7,q8,q9,j1,j2,j3,S1,g4,wsi]
   exact ⟨i+1,by omega,.i ⟨b',a',F',G',tK',tL',K',L',by rw [hps];exact s6,r6⟩,rfl,hlt⟩
  ·have hie:i=l.length:=by omega
   subst hie
   rw [List.take_length] at s5
   simp -implicitDefEqProofs only [mkR_nil,mkR_cons,op,ef,cl,sq,reduceIte,q3,q5,q6,q7,q8,q9,j1,j2,j3,S1,List.length_map,g4,hlt]
   exact .i ⟨b,a,F,G,tK,tL,K,L,s5,r5⟩
 rintro R H5 ⟨b,a,F,G,tK,tL,K,L,s5,r5⟩
 simp -implicitDefEqProofs only [mkR_nil,mkR_cons,op,ef,cl,sq,reduceIte,q3,q5,q6,q7,q8,q9,j1,j2,j3,S1]
 refine callB_of _ _ _ _ _ _ _ _ (all26 s5 r5 (by omega)) ?_
 rintro u H6 ⟨hu,hx6⟩
 cases hu
 simp -implicitDefEqProofs only [mkR_nil,mkR_cons,op,ef,cl,sq,reduceIte,q3,q5,q6,q7,q8,q9,j1,j2,j3,S1]
end Go.Proofs.YtbkgokabcnogdaaGreat.St
end

section
namespace Go.Proofs.YtbkgokabcnogdaaGreat
open Go.ChangeShapes Go.WideShapes Go.ChangeAt Go.RowKit
namespace Law
theorem own:ownKnob Tryz.prog.godebug=none:=by kernel_rfl
theorem kids:Kids Tryz.prog (·<Tryz.prog.types.size):=kids_rows (by kernel_rfl) (by kernel_rfl)
noncomputable def hzB:Bool:=(List.range Tryz.prog.types.size).all fun t=>match Tryz.prog.underlying t with
 | some (.slice e)=>decide (0<Tryz.prog.cellsOf e)
 | _=>true
theorem hzB_ok:hzB=true:=by kernel_rfl
theorem hz:∀ t e,t<Tryz.prog.types.size→Tryz.prog.underlying t=some (.slice e)→0<Tryz.prog.cellsOf e:=fun t e ht h=>by
 have:=(List.all_eq_true.1 hzB_ok) t (List.mem_range.2 ht)
 rw [h] at this
 simpa using this
mutual
theorem bulk_eq {H:Type}:∀ d:DataW H,Go.Rmp.bulkW d=Rows.uptoBulk d
 | .lit l=>by cases l <;> simp [Go.Rmp.bulkW,Rows.uptoBulk]
 | .nil=>by simp [Go.Rmp.bulkW,Rows.uptoBulk]
 | .ptr d=>by simp [Go.Rmp.bulkW,Rows.uptoBulk,bulk_eq d]
 | .slice elems spare=>by simp [Go.Rmp.bulkW,Rows.uptoBulk,bulks_eq elems,bulks_eq spare]
 | .agg parts=>by simp [Go.Rmp.bulkW,Rows.uptoBulk,bulks_eq parts]
 | .iface _ d=>by simp [Go.Rmp.bulkW,Rows.uptoBulk,bulk_eq d]
 | .map entries=>by simp [Go.Rmp.bulkW,Rows.uptoBulk,bulkE_eq entries]
 | .held _=>by simp [Go.Rmp.bulkW,Rows.uptoBulk]
theorem bulks_eq {H:Type}:∀ l:List (DataW H),Go.Rmp.bulkAllW l=Rows.uptoBulkAll l
 | []=>by simp [Go.Rmp.bulkAllW,Rows.uptoBulkAll]
 | d :: r=>by simp [Go.Rmp.bulkAllW,Rows.uptoBulkAll,bulk_eq d,bulks_eq r]
theorem bulkE_eq {H:Type}:∀ l:List (Lit × DataW H),Go.Rmp.bulkEntriesW l=Rows.uptoBulkEntries l
 | []=>by simp [Go.Rmp.bulkEntriesW,Rows.uptoBulkEntries]
 | x :: r=>by simp [Go.Rmp.bulkEntriesW,Rows.uptoBulkEntries,bulkEn_eq x,bulkE_eq r]
theorem bulkEn_eq {H:Type}:∀ x:Lit × DataW H,Go.Rmp.bulkEntryW x=Rows.uptoBulkEntry x
 | (l,d)=>by cases l <;> simp [Go.Rmp.bulkEntryW,Rows.uptoBulkEntry,bulk_eq d]
end
theorem bulk_ok {H:Type} {ds:List (DataW H)} (h:Rows.uptoSmall H ds=true):Go.Rmp.bulkAllW ds≤1048576:=by
 rw [bulks_eq];simpa [Rows.uptoSmall] using h
theorem hasS {B:Nat} {t:Go.Rmp.T} (h:Go.Rmp.HasSh B .str t):∃ s,t=.str s∧s.size≤B:=by
 cases h with | str h hB=>exact ⟨_,rfl,hB⟩
theorem hasI {B:Nat} {t:Go.Rmp.T} (h:Go.Rmp.HasSh B (.int .i64) t):∃ n:Int,t=.int .i64 n∧St.I64 n:=by
 cases h with | int h =>
  rename_i n
  exact ⟨n,rfl,by simpa [St.I64,Lit.wf,IntKind.min,IntKind.max,IntKind.signed,IntKind.bits] using h⟩
theorem hasU {B:Nat} {t:Go.Rmp.T} (h:Go.Rmp.HasSh B (.int .u64) t):∃ n:Nat,t=.int .u64 n∧n<18446744073709551616:=by
 cases h with | int h =>
  rename_i n
  simp -implicitDefEqProofs only [Lit.wf,IntKind.min,IntKind.max,IntKind.signed,IntKind.bits] at h
  simp at h
  exact ⟨n.toNat,by congr 1;omega,by omega⟩
end Law
namespace St
open Go.Rmp
theorem map_of {α:Type} {P:α→Prop} (enc:α→List T) (es:List (List T)) (h:∀ c∈es,∃ x,c=enc x∧P x):∃ l:List α,es=l.map enc∧∀ x∈l,P x:=by
 induction es with
 | nil=>exact ⟨[],rfl,by simp⟩
 | cons c es ih =>
  obtain ⟨l,rfl,hl⟩:=ih (fun c hc=>h c (List.mem_cons_of_mem _ hc))
  obtain ⟨x,rfl,hx⟩:=h _ List.mem_cons_self
  exact ⟨x :: l,rfl,fun y hy=>by rcases List.mem_cons.1 hy with rfl | hy;exact hx;exact hl y hy⟩
theorem hasSs {B:Nat} {t:T} (h:HasSh B (.sl [.str]) t):∃ k l,t=.sl k (List.map eS l)∧KOk k l∧l.length≤B:=by
 cases h with
 | nil=>exact ⟨.nil,[],rfl,fun _=>rfl,Nat.zero_le _⟩
 | sl hl hB h0 h =>
  rename_i es
  obtain ⟨l,rfl,_⟩:=map_of (P:=fun _=>True) eS es fun c hc=>by
   have hc1:=h0 c hc
   match c,hc1 with
   | [a],_=>obtain ⟨s,rfl,_⟩:=Law.hasS (h _ hc 0 .str a rfl rfl);exact ⟨s,rfl,trivial⟩
  exact ⟨.arg,l,rfl,fun h=>(by cases h),by simpa using hB⟩
theorem hasPs {B:Nat} {t:T} (h:HasSh B (.sl [.str,.str]) t):∃ (k:SK) (l:List (ByteArray × ByteArray)),t=.sl k (l.map eP):=by
 cases h with
 | nil=>exact ⟨.nil,[],rfl⟩
 | sl hl hB h0 h =>
  rename_i es
  obtain ⟨l,rfl,_⟩:=map_of (P:=fun _=>True) eP es fun c hc=>by
   have hc1:=h0 c hc
   match c,hc1 with
   | [a,b],_ =>
    obtain ⟨s,rfl,_⟩:=Law.hasS (h _ hc 0 .str a rfl rfl)
    obtain ⟨s',rfl,_⟩:=Law.hasS (h _ hc 1 .str b rfl rfl)
    exact ⟨(s,s'),rfl,trivial⟩
  exact ⟨.arg,l,rfl⟩
theorem hasOs {t:T} (h:HasSh 1048576 (.sl [.int .i64,.int .u64,.str,.sl [.str,.str],.sl [.str],.int .i64]) t):∃ (k:SK) (l:List OpV),t=.sl k (l.map eO)∧l.length≤1048576∧∀ o∈l,OpOk o:=by
 cases h with
 | nil=>exact ⟨.nil,[],rfl,Nat.zero_le _,by simp⟩
 | sl hl hB h0 h =>
  rename_i es
  obtain ⟨l,rfl,hP⟩:=map_of (P:=fun o:OpV=>OpOk o) eO es fun c hc=>by
   have hc1:=h0 c hc
   match c,hc1 with
   | [a,b,c,d,e,f],_ =>
    obtain ⟨z,rfl,_⟩:=Law.hasI (h _ hc 0 (.int .i64) a rfl rfl)
    obtain ⟨n,rfl,_⟩:=Law.hasU (h _ hc 1 (.int .u64) b rfl rfl)
    obtain ⟨s,rfl,_⟩:=Law.hasS (h _ hc 2 .str c rfl rfl)
    obtain ⟨k,l,rfl⟩:=hasPs (h _ hc 3 (.sl [.str,.str]) d rfl rfl)
    obtain ⟨k',l',rfl,hk,hl⟩:=hasSs (h _ hc 4 (.sl [.str]) e rfl rfl)
    obtain ⟨z',rfl,_⟩:=Law.hasI (h _ hc 5 (.int .i64) f rfl rfl)
    exact ⟨⟨z,n,s,k,l,k',l',z'⟩,rfl,hk,hl⟩
  exact ⟨.arg,l,rfl,by simpa using hB,hP⟩
theorem prs_bk:∀ l:List OpV,prs l≤bkE (l.map eO)
 | []=>Nat.zero_le _
 | o :: l=>by
  have h1:=prs_bk l
  have h2:∀ ps:List (ByteArray × ByteArray),ps.length≤bkE (ps.map eP):=fun ps=>by
   induction ps with
   | nil=>exact Nat.zero_le _
   | cons p ps ih=>simp -implicitDefEqProofs only [List.map_cons,bkE,eP,bkL,T.bk,List.length_cons];omega
  have h3:=h2 o.pairs
  have e:prs (o :: l)=o.pairs.length+prs l:=by simp [prs]
  rw [e]
  simp -implicitDefEqProofs only [List.map_cons,bkE,eO,bkL,T.bk]
  omega
end St
namespace Law
end Law
end Go.Proofs.YtbkgokabcnogdaaGreat
end

section
namespace Go.Proofs.YtbkgokabcnogdaaGreat
open Go.ChangeShapes Go.WideShapes Go.ChangeAt Go.RowKit
namespace Law
theorem storePlays_w (as':List Go.Rmp.T) (hs:Go.Rmp.HasShs 1048576 [Go.Rmp.Sh.sl [.int .i64,.int .u64,.str,.sl [.str,.str],.sl [.str],.int .i64]] as') (hb:Go.Rmp.bkL as'≤1048576):Go.Rmp.W Ir.env (.call 5 as') [] (fun o _=>o=.val (.bool true)):=by
 cases hs with | cons h1 hs =>
 cases hs
 obtain ⟨k,l,rfl,n1,n2⟩:=St.hasOs h1
 have:=St.prs_bk l
 simp -implicitDefEqProofs only [Go.Rmp.bkL,Go.Rmp.T.bk] at hb
 exact St.plays5 k l (by omega) n2 (by omega) []
theorem storePlays_fn (H:Type):∀ ds:List (DataW H),ds.length=Tryz.f5.params.toList.length→Rows.storePlaysSpec.fn H ds={ results:=[.lit (.bool true)],args:=ds }:=by
 have hn:Tryz.f5.params.toList.length=1:=by kernel_rfl
 rw [hn]
 intro ds hds
 cases ds with | nil=>simp at hds | cons d0 ds =>
 cases ds with | cons=>simp at hds | nil =>
 rfl
set_option maxRecDepth 100000 in
theorem storePlays_lifted (os:Os) (started:os.Started) (H:Type) (enc:TypeId × Value→H) (F:Stop.Interp) :
  ReturnsInHanded {} Tryz.checked os 5 .any ((Rows.OpenSpec.upto Rows.storePlaysSpec).pre6 enc Tryz.prog Tryz.f5 Rows.storePlaysUptoRow.domain false) (((Rows.OpenSpec.upto Rows.storePlaysSpec).at F).post enc Tryz.prog Tryz.f5 false true false false):=by
 refine returnsInHanded_of_cond (C:=Tryz.checked) (s:=Rows.OpenSpec.upto Rows.storePlaysSpec) (k:=Rows.uptoSmall) rfl own started (by kernel_rfl) Tryz.func5
  (OpenSpec.witness (enc:=enc) (C:=Tryz.checked) (s:=Rows.OpenSpec.upto Rows.storePlaysSpec) (k:=Rows.uptoSmall) rfl false ⟨#[],#[.slice .none 0 0],[]⟩ 8 (by kernel_rfl) (by kernel_rfl) (by kernel_rfl)
   (x:=([.nil],[],[])) (by kernel_rfl) rfl (by kernel_rfl)) ?_
 intro W base args ds gs before hval hW _ hk _
 exact Go.Rmp.law_contractB (s:=Rows.storePlaysSpec) (shs:=[Go.Rmp.Sh.sl [.int .i64,.int .u64,.str,.sl [.str,.str],.sl [.str],.int .i64]]) (B:=1048576) (tb:=Tryz.f5.resultTypes[0]!) Ir.envOk kids hz (by kernel_rfl) (by intro t ht;exact of_decide_eq_true ((List.all_eq_true.1 (show Tryz.f5.params.toList.all (fun t=>decide (t<Tryz.prog.types.size))=true by kernel_rfl)) t ht)) (by kernel_rfl) (by kernel_rfl) rfl (storePlays_fn H) storePlays_w base args ds gs before hval hW (bulk_ok hk)
theorem storePlays_over:Rows.storePlaysUptoRow.holds Tryz.pinned (Rows.OpenSpec.upto Rows.storePlaysSpec) :=
 OpenClaim.holds_of_cond 5 Tryz.f5 rfl rfl rfl rfl rfl rfl rfl ⟨rfl,rfl,rfl,rfl,rfl⟩ rfl rfl rfl rfl rfl (by kernel_rfl) Tryz.func5 (by kernel_rfl)
  (of_decide_eq_true (by kernel_rfl)) (by unfold Func.isWrapper;first | (rw [if_pos (by decide +kernel)];kernel_rfl) | (rw [if_neg (by decide +kernel)];exact ⟨rfl,rfl⟩))
  (fun os started H enc _ F=>storePlays_lifted os started H enc F)
theorem storePlays_proved:Rows.StorePlaysUptoSaid:=storePlays_over
end Law
end Go.Proofs.YtbkgokabcnogdaaGreat
end
