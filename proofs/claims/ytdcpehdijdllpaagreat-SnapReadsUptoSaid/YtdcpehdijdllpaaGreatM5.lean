/- Part of a proof of a law of this seat: the machine of plain values, its simulation, and the contracts of the functions that the law reaches. Conditions: none beyond the given row. -/
import Derived.Test.YtdcpehdijdllpaaGreatM4
open Int renaming reduceLT → q5, reduceLE → q6, reduceBEq → q7, reduceBNe → q9, reduceEq → j1
open Nat renaming reduceAdd → j2, reduceLeDiff → j3, reduceLT → j4, reduceEqDiff → j5
set_option linter.unusedSimpArgs false
set_option linter.unusedVariables false
set_option linter.unnecessarySimpa false
set_option maxHeartbeats 4000000
section
namespace Go.Proofs.YtdcpehdijdllpaaGreat.St
open Go.Rmp Go.Proofs.YtdcpehdijdllpaaGreat.Ir
set_option maxRecDepth 10000
theorem Iv {l:List Nat}:∀c∈l.map eB,c.map T.erase=c:=fun c hc=>by
 obtain⟨x,_,rfl⟩:=List.mem_map.1 hc;rfl
structure Kp (n0:Nat)(C:Nat→Prop)(H H':af):Prop where
 len:H.length≤H'.length
 get:∀b x,H[b]?=some x→(∀e,x≠.tok e)→¬C b→H'[b]?=some x
 ext:∀H0:af,H0.length≤n0→Ext H0 H→Ext H0 H'
theorem Kp.rfl' {n0:Nat}{C:Nat→Prop}{H:af}:Kp n0 C H H:=⟨Nat.le_refl _,fun _ _ h _ _=>h,fun _ _ h=>h⟩
theorem Kp.trans {n0:Nat}{C:Nat→Prop}{H H' xz:af}(h:Kp n0 C H H')(h':Kp n0 C H' xz):Kp n0 C H xz :=
 ⟨Nat.le_trans h.len h'.len,fun b x hx ht hc=>h'.get b x (h.get b x hx ht hc) ht hc,fun H0 h0 hx=>h'.ext H0 h0 (h.ext H0 h0 hx)⟩
theorem Kp.set {n0 c:Nat}{C:Nat→Prop}{H H':af}(h:Kp n0 C H H')(hc:C c)(h0:n0≤c)(x:B):Kp n0 C H (H'.set c x) :=
 ⟨by simpa using h.len,fun b y hy ht hb=>by rw[bm (fun e=>hb (by subst e;exact hc))];exact h.get b y hy ht hb,fun H0 hl hx=>(h.ext H0 hl hx).set (by omega) x⟩
theorem Iw {n0:Nat}{H:af}{k:SK}(bs new:List Nat)(hk:fK n0 H k)(iA:n0≤H.length)(hl:bs.length+new.length≤4294967296) :
  ∃k' H',fP H 1 k (bs.map eB) (new.map eB)=some (.sl k' ((bs++new).map eB),H')∧fK n0 H' k'∧(∀C,Kp n0 C H H')∧(gI k bs→gI k' (bs++new)):=by
 cases new with
 | nil=>exact⟨k,H,by simp[fP],hk,fun C=>Kp.rfl',fun h=>by rw[List.append_nil];exact h⟩
 | cons c new =>
  obtain⟨k',H',h1,h2,h3⟩:=gC (bytes:=1) (bs.map eB) ((c :: new).map eB) hk iA (by simp) (ga (by simp -implicitDefEqProofs only[List.length_map];omega))
  refine⟨k',H',?_,h2,fun C=>⟨h3.len,fun b x hx ht _=>h3.cells hk hx ht,h3.ext⟩,fun _ e=>absurd e (pW h1 (by simp))⟩
  rw[h1,List.map_append]
  have:((c :: new).map eB).map (fun c=>c.map T.erase)=(c :: new).map eB:=by rw[List.map_map];rfl
  rw[this]
theorem sU (l:List Nat):(l.map eB).all (fun c=>c.length==1)=true:=all_map (enc:=eB) (n:=1) (fun _=>rfl) l
theorem W3 (s:ByteArray):(s.data.toList.map fun c=>[T.int .u8 c.toNat])=(tL s).map eB:=by unfold tL eB;rw[List.map_map];rfl
theorem elS (s:ByteArray):∀Hx,bG Hx 1 (T.str s)=some ((tL s).map eB):=fun Hx=>by rw[←W3];rfl
theorem B7:∀(n v m:Nat),m<n→(cd n v)[n-(m+1)]?=some (v/256^m%256)
 | 0,v,m,h=>by omega
 | n+1,v,m,h=>by
  by_cases e:m=n
  ·subst e;simp[cd]
  ·have e1:n+1-(m+1)=(n-(m+1))+1:=by omega
   rw[e1]
   show(cd n v)[n-(m+1)]?=_
   exact B7 n v m (by omega)
theorem yX {n v m:Nat}(h:m<n):(cd n v).take (n-m)=(cd n v).take (n-(m+1))++[v/256^m%256]:=by
 have e:n-m=n-(m+1)+1:=by omega
 rw[e,fe (B7 n v m h)]
theorem adA (m:Nat):2^(8*m)=256^m:=by rw[Nat.pow_mul]
theorem W5 {m:Nat}(v:Nat)(h:m≤7):(v:Int).fdiv (2^(min ((8*m:Nat):Int).toNat IntKind.u64.bits))=((v/256^m:Nat):Int):=by
 have e:min ((8*m:Nat):Int).toNat IntKind.u64.bits=8*m:=by
  show min (8*m) 64=8*m
  omega
 rw[e,YO,adA]
theorem mE {n0:Nat}(k:SK)(bs:List Nat)(v n:Nat)(H:af)(hk:fK n0 H k)(iA:n0≤H.length)(hn:n≤8)(hl:bs.length+n≤4294967296) :
  W env (.call 37 [.sl k (bs.map eB),.int .u64 v,.int .i64 n]) H (fun o H'=>∃k',o=.val (.sl k' ((bs++cd n v).map eB))∧fK n0 H' k'∧∀C,Kp n0 C H H'):=by
 refine W.bA rfl rfl rfl ?_
 have w0:IntKind.i64.wrap ((n:Int)-1)=(n:Int)-1:=wrap64 (by omega)
 simp -implicitDefEqProofs only[PC,op,ef,cl,sq,reduceIte,q5,q6,q7,q9,j1,j2,j3,j4,j5,S1,w0]
 refine W.jC [(1,_)] (fun (m:Nat) R H'=>At H' (fun H'=>∃k',R 0=.sl k' ((bs++(cd n v).take (n-m)).map eB)∧fK n0 H' k'∧n0≤H'.length∧∀C,Kp n0 C H H')∧R 7=.int .i64 ((m:Int)-1)∧m≤n) (fun m=>m) n ⟨.i ⟨k,by rw[Nat.sub_self,List.take_zero,List.append_nil];rfl,hk,iA,fun C=>Kp.rfl'⟩,rfl,Nat.le_refl _⟩ ?_
 rintro m R H1⟨⟨k',g0,kv,zj,qH⟩,g7,hm⟩
 cases m with
 | zero =>
  have e:decide ((((0:Nat):Int)-1)≥0)=false:=by decide
  rw[Nat.sub_zero,List.take_of_length_le (by rw[aF];omega)]at g0
  simp -implicitDefEqProofs only[ai,ah,op,ef,cl,sq,reduceIte,q5,q6,q7,q9,j1,j2,j3,j4,j5,S1,g0,g7,e]
  exact⟨k',rfl,kv,qH⟩
 | succ m =>
  have e7:(((m+1:Nat):Int)-1)=((m:Nat):Int):=by omega
  have e:decide (((m:Nat):Int)≥0)=true:=by simp
  have w8:IntKind.i64.wrap (8*((m:Nat):Int))=((8*m:Nat):Int):=by rw[wrap64 (by omega)];simp
  have s8:=W5 (m:=m) v (by omega)
  have n8:¬(((8*m:Nat):Int)<0):=by omega
  have w1:IntKind.i64.wrap ((m:Int)-1)=(m:Int)-1:=wrap64 (by omega)
  obtain⟨k2,H2,ha,zl,lH,sV⟩:=Iw (bs++(cd n v).take (n-(m+1))) [v/256^m%256] kv zj (by simp -implicitDefEqProofs only[List.length_append,List.length_take,aF,List.length_cons,List.length_nil];omega)
  rw[List.append_assoc,←yX (show m<n by omega)]at ha sV
  have hB:=sU (bs++(cd n v).take (n-(m+1)))
  have vA:fP H1 1 k' ((bs++(cd n v).take (n-(m+1))).map eB) [[.int .u8 ((v/256^m%256:Nat):Int)]]=some (.sl k2 ((bs++(cd n v).take (n-m)).map eB),H2):=ha
  rw[e7]at g7
  have m8:=sS (v/256^m)
  simp -implicitDefEqProofs only[ai,ah,op,ef,cl,sq,reduceIte,q5,q6,q7,q9,j1,j2,j3,j4,j5,S1,g0,g7,e,w8,n8,s8,m8,hB,vA,w1]
  exact⟨m,by omega,.i ⟨k2,rfl,zl,Nat.le_trans zj (lH fun _=>False).len,fun C=>(qH C).trans (lH C)⟩,rfl,by omega⟩
theorem rb {n0:Nat}(k:SK)(bs:List Nat)(s:ByteArray)(H:af)(hk:fK n0 H k)(iA:n0≤H.length)(hl:bs.length+4+s.size≤4294967296) :
  W env (.call 39 [.sl k (bs.map eB),.str s]) H (fun o H'=>∃k',o=.val (.sl k' ((bs++eT s).map eB))∧fK n0 H' k'∧∀C,Kp n0 C H H'):=by
 refine W.bA rfl rfl rfl ?_
 have w0:=cL (n:=s.size) (by omega)
 simp -implicitDefEqProofs only[PE,op,ef,cl,sq,reduceIte,q5,q6,q7,q9,j1,j2,j3,j4,j5,S1,w0]
 refine ae _ _ _ _ _ _ _ _ (mE (n0:=n0) k bs s.size 4 H hk iA (by decide) (by omega)) ?_
 rintro u H1⟨k1,hu,nN,kJ⟩
 cases hu
 obtain⟨k2,H2,ha,zl,lH,sV⟩:=Iw (bs++cd 4 s.size) (tL s) nN (Nat.le_trans iA (kJ fun _=>False).len) (by simp -implicitDefEqProofs only[List.length_append,aF,qg];omega)
 rw[List.append_assoc]at ha sV
 have hB:=sU (bs++cd 4 s.size)
 have hs:=elS s
 simp -implicitDefEqProofs only[op,ef,cl,sq,reduceIte,q5,q6,q7,q9,j1,j2,j3,j4,j5,S1,hB,hs,ha]
 exact⟨k2,rfl,zl,fun C=>(kJ C).trans (lH C)⟩
structure PW (n0:Nat)(H:af)(c:Nat)(out:List Nat):Prop where
 at_:∃k,H[c]?=some (.cells [.int .i64 2147483647,.sl k (out.map eB),.int .i64 0])∧fK n0 H k∧gI k out
 lo:n0≤c
theorem PW.ext {n0:Nat}{H H':af}{c:Nat}{out:List Nat}(h:PW n0 H c out)(hx:Ext H H'):PW n0 H' c out:=by
 obtain⟨⟨k,h1,h2,h4⟩,h3⟩:=h
 exact⟨⟨k,hx.get h1,h2.ext hx,h4⟩,h3⟩
def NK (n0:Nat)(c:Nat)(out:List Nat)(H:af):Out→af→Prop:=fun o H'=>o=.val (.bC [])∧PW n0 H' c out∧Kp n0 (fun b=>b=c) H H'
theorem sW {n0:Nat}{H:af}{c:Nat}{out:List Nat}(h:PW n0 H c out)(n:Nat)(hn:out.length+n≤2147483647):W env (.call 72 [.ptr c 0,.int .i64 n]) H (kX (.bool true) H):=by
 obtain⟨⟨k,h1,h2,h4⟩,h3⟩:=h
 refine W.bA rfl rfl rfl ?_
 have w0:IntKind.i64.wrap (2147483647-(out.length:Int))=((2147483647-out.length:Nat):Int):=by rw[wrap64 (by omega)];omega
 have w1:decide ((n:Int)>((2147483647-out.length:Nat):Int))=false:=by simp;omega
 simp -implicitDefEqProofs only[P5,op,ef,cl,sq,reduceIte,q5,q6,q7,q9,j1,j2,j3,j4,j5,S1,h1,List.length_map,w0,w1]
theorem W6 (H:af):W env (.call 29 [.int .i64 2147483647]) H (fun o H'=>Ext H H'∧o=.val (.ptr H.length 0)∧PW H.length H' H.length []):=by
 refine W.bA rfl rfl rfl ?_
 have e:(if (0:Int)>2147483647 then(0:Int)else 2147483647)=2147483647:=by decide
 simp -implicitDefEqProofs only[Pu,op,ef,cl,sq,reduceIte,q5,q6,q7,q9,j1,j2,j3,j4,j5,S1,e]
 exact⟨Ext.rfl'.app _,⟨.nil,aE rfl,ft _ _,fun _=>rfl⟩,Nat.le_refl _⟩
theorem yY {n0:Nat}{H:af}{c:Nat}{out:List Nat}(h:PW n0 H c out)(iA:n0≤H.length)(v n:Nat)(hn:n≤8)(hl:out.length+n≤4294967296) :
  W env (.call 73 [.ptr c 0,.int .u64 v,.int .i64 n]) H (NK n0 c (out++cd n v) H):=by
 refine W.bA rfl rfl rfl ?_
 have w0:IntKind.i64.wrap ((n:Int)-1)=(n:Int)-1:=wrap64 (by omega)
 simp -implicitDefEqProofs only[P6,op,ef,cl,sq,reduceIte,q5,q6,q7,q9,j1,j2,j3,j4,j5,S1,w0]
 refine W.dV 0 [(0,_),(1,_)] (fun (m:Nat) R H'=>At H' (fun H'=>PW n0 H' c (out++(cd n v).take (n-m))∧n0≤H'.length∧Kp n0 (fun b=>b=c) H H')∧R 6=.int .i64 ((m:Int)-1)∧m≤n) (fun m=>m) n
  (fun R H'=>At H' (fun H'=>PW n0 H' c (out++cd n v)∧Kp n0 (fun b=>b=c) H H')) ⟨.i ⟨by rw[Nat.sub_self,List.take_zero,List.append_nil];exact h,iA,Kp.rfl'⟩,rfl,Nat.le_refl _⟩ ?_ ?_
 ·rintro m R H1⟨⟨hp,zj,qH⟩,g6,hm⟩
  cases m with
  | zero =>
   have e:decide ((((0:Nat):Int)-1)≥0)=false:=by decide
   rw[Nat.sub_zero,List.take_of_length_le (by rw[aF];omega)]at hp
   simp -implicitDefEqProofs only[ai,ah,op,ef,cl,sq,reduceIte,q5,q6,q7,q9,j1,j2,j3,j4,j5,S1,g6,e,cC]
   exact .i ⟨hp,qH⟩
  | succ m =>
   obtain⟨⟨k,d,hk,jP⟩,lG⟩:=hp
   have e7:(((m+1:Nat):Int)-1)=((m:Nat):Int):=by omega
   have e:decide (((m:Nat):Int)≥0)=true:=by simp
   have w8:IntKind.i64.wrap (8*((m:Nat):Int))=((8*m:Nat):Int):=by rw[wrap64 (by omega)];simp
   have s8:=W5 (m:=m) v (by omega)
   have n8:¬(((8*m:Nat):Int)<0):=by omega
   have w1:IntKind.i64.wrap ((m:Int)-1)=(m:Int)-1:=wrap64 (by omega)
   obtain⟨k2,H2,ha,zl,lH,sV⟩:=Iw (out++(cd n v).take (n-(m+1))) [v/256^m%256] hk zj (by simp -implicitDefEqProofs only[List.length_append,List.length_take,aF,List.length_cons,List.length_nil];omega)
   rw[List.append_assoc,←yX (show m<n by omega)]at ha sV
   have hB:=sU (out++(cd n v).take (n-(m+1)))
   have vA:fP H1 1 k ((out++(cd n v).take (n-(m+1))).map eB) [[.int .u8 ((v/256^m%256:Nat):Int)]]=some (.sl k2 ((out++(cd n v).take (n-m)).map eB),H2):=ha
   rw[e7]at g6
   have m8:=sS (v/256^m)
   have d2:=(lH fun _=>False).get c _ d (by simp) (fun h=>h)
   have l2:=aQ d2
   simp -implicitDefEqProofs only[ai,ah,op,ef,cl,sq,reduceIte,q5,q6,q7,q9,j1,j2,j3,j4,j5,S1,g6,e,w8,n8,s8,m8,hB,vA,w1,d,d2,l2]
   exact⟨m,by omega,.i ⟨⟨⟨k2,bQ l2,zl.set d2 (by simp) _,sV jP⟩,lG⟩,by have:=(lH fun _=>False).len;simp;omega,(qH.trans (lH _)).set rfl lG _⟩,rfl,by omega⟩
 rintro R H1⟨hp,qH⟩
 simp -implicitDefEqProofs only[ai,ah,op,ef,cl,sq,reduceIte,q5,q6,q7,q9,j1,j2,j3,j4,j5,S1]
 exact⟨rfl,hp,qH⟩
theorem u30 {n0:Nat}{H:af}{c:Nat}{out:List Nat}(h:PW n0 H c out)(iA:n0≤H.length)(v:Nat)(hv:v<4294967296)(hl:out.length+4≤2147483647) :
  W env (.call 30 [.ptr c 0,.int .u32 v]) H (NK n0 c (out++cd 4 v) H):=by
 refine W.bA rfl rfl rfl ?_
 have w0:=cL (n:=v) (by omega)
 simp -implicitDefEqProofs only[Pv,op,ef,cl,sq,reduceIte,q5,q6,q7,q9,j1,j2,j3,j4,j5,S1]
 refine ae _ _ _ _ _ _ _ _ (sW h 4 hl) ?_
 rintro u H1⟨hu,rfl⟩
 cases hu
 simp -implicitDefEqProofs only[op,ef,cl,sq,reduceIte,q5,q6,q7,q9,j1,j2,j3,j4,j5,S1,w0]
 refine ae _ _ _ _ _ _ _ _ (yY h iA v 4 (by decide) (by omega)) ?_
 rintro u H1⟨hu,h1⟩
 cases hu
 simp -implicitDefEqProofs only[op,ef,cl,sq,reduceIte,q5,q6,q7,q9,j1,j2,j3,j4,j5,S1]
 exact⟨rfl,h1⟩
theorem u31 {n0:Nat}{H:af}{c:Nat}{out:List Nat}(h:PW n0 H c out)(iA:n0≤H.length)(v:Nat)(hv:v<256)(hl:out.length+1≤2147483647) :
  W env (.call 31 [.ptr c 0,.int .u8 v]) H (NK n0 c (out++cd 1 v) H):=by
 refine W.bA rfl rfl rfl ?_
 have w0:=cL (n:=v) (by omega)
 simp -implicitDefEqProofs only[Pw,op,ef,cl,sq,reduceIte,q5,q6,q7,q9,j1,j2,j3,j4,j5,S1]
 refine ae _ _ _ _ _ _ _ _ (sW h 1 hl) ?_
 rintro u H1⟨hu,rfl⟩
 cases hu
 simp -implicitDefEqProofs only[op,ef,cl,sq,reduceIte,q5,q6,q7,q9,j1,j2,j3,j4,j5,S1,w0]
 refine ae _ _ _ _ _ _ _ _ (yY h iA v 1 (by decide) (by omega)) ?_
 rintro u H1⟨hu,h1⟩
 cases hu
 simp -implicitDefEqProofs only[op,ef,cl,sq,reduceIte,q5,q6,q7,q9,j1,j2,j3,j4,j5,S1]
 exact⟨rfl,h1⟩
theorem u32 {n0:Nat}{H:af}{c:Nat}{out:List Nat}(h:PW n0 H c out)(iA:n0≤H.length)(v:Nat)(hl:out.length+8≤2147483647) :
  W env (.call 32 [.ptr c 0,.int .u64 v]) H (NK n0 c (out++cd 8 v) H):=by
 refine W.bA rfl rfl rfl ?_
 simp -implicitDefEqProofs only[Px,op,ef,cl,sq,reduceIte,q5,q6,q7,q9,j1,j2,j3,j4,j5,S1]
 refine ae _ _ _ _ _ _ _ _ (sW h 8 hl) ?_
 rintro u H1⟨hu,rfl⟩
 cases hu
 simp -implicitDefEqProofs only[op,ef,cl,sq,reduceIte,q5,q6,q7,q9,j1,j2,j3,j4,j5,S1]
 refine ae _ _ _ _ _ _ _ _ (yY h iA v 8 (by decide) (by omega)) ?_
 rintro u H1⟨hu,h1⟩
 cases hu
 simp -implicitDefEqProofs only[op,ef,cl,sq,reduceIte,q5,q6,q7,q9,j1,j2,j3,j4,j5,S1]
 exact⟨rfl,h1⟩
theorem wQ {n0:Nat}{H:af}{c:Nat}{out:List Nat}(h:PW n0 H c out)(iA:n0≤H.length)(s:ByteArray)(hl:out.length+(4+s.size)≤2147483647) :
  W env (.call 33 [.ptr c 0,.str s]) H (NK n0 c (out++eT s) H):=by
 refine W.bA rfl rfl rfl ?_
 have w0:=cL (n:=s.size) (by omega)
 have w4:IntKind.i64.wrap (4+(s.size:Int))=((4+s.size:Nat):Int):=by rw[wrap64 (by omega)];simp
 simp -implicitDefEqProofs only[Py,op,ef,cl,sq,reduceIte,q5,q6,q7,q9,j1,j2,j3,j4,j5,S1,w4]
 refine ae _ _ _ _ _ _ _ _ (sW h (4+s.size) hl) ?_
 rintro u H1⟨hu,rfl⟩
 cases hu
 simp -implicitDefEqProofs only[op,ef,cl,sq,reduceIte,q5,q6,q7,q9,j1,j2,j3,j4,j5,S1,w0]
 refine ae _ _ _ _ _ _ _ _ (yY h iA s.size 4 (by decide) (by omega)) ?_
 rintro u H1⟨hu,⟨⟨k,d,hk,jP⟩,lG⟩,qH⟩
 cases hu
 obtain⟨k2,H2,ha,zl,lH,sV⟩:=Iw (out++cd 4 s.size) (tL s) hk (Nat.le_trans iA qH.len) (by simp -implicitDefEqProofs only[List.length_append,aF,qg];omega)
 rw[List.append_assoc]at ha sV
 have hB:=sU (out++cd 4 s.size)
 have hs:=elS s
 have d2:=(lH fun _=>False).get c _ d (by simp) (fun h=>h)
 have l2:=aQ d2
 simp -implicitDefEqProofs only[op,ef,cl,sq,reduceIte,q5,q6,q7,q9,j1,j2,j3,j4,j5,S1,d,hB,hs,ha,d2,l2]
 exact⟨rfl,⟨⟨k2,bQ l2,zl.set d2 (by simp) _,sV jP⟩,lG⟩,(qH.trans (lH _)).set rfl lG _⟩
def sX (l:List ByteArray):List Nat:=cd 4 l.length++l.flatMap eT
theorem wR (l:List ByteArray):(sX l).length=4+(l.flatMap eT).length:=by simp[sX,aF]
theorem gF {α:Type}{e:α→List Nat}{l:List α}{i:Nat}{x:α}(h:l[i]?=some x):(l.take (i+1)).flatMap e=(l.take i).flatMap e++e x:=by
 rw[fe h,List.flatMap_append];simp
theorem gG {α:Type}{e:α→List Nat}(l:List α)(i:Nat):((l.take i).flatMap e).length≤(l.flatMap e).length:=by
 have h:l.flatMap e=(l.take i).flatMap e++(l.drop i).flatMap e:=by rw[←List.flatMap_append,List.take_append_drop]
 rw[h,List.length_append];omega
theorem L5 {n0:Nat}{H:af}{c:Nat}{out:List Nat}(h:PW n0 H c out)(iA:n0≤H.length)(kl:SK)(l:List ByteArray)(hl:out.length+(sX l).length≤2147483647)(rI:l.length<4294967296) :
  W env (.call 34 [.ptr c 0,.sl kl (l.map eS)]) H (NK n0 c (out++sX l) H):=by
 rw[wR]at hl
 refine W.bA rfl rfl rfl ?_
 simp -implicitDefEqProofs only[Pz,op,ef,cl,sq,reduceIte,q5,q6,q7,q9,j1,j2,j3,j4,j5,S1]
 refine W.dV 0 [(0,_),(1,_),(9,_),(10,_)] (fun (i:Nat) R H'=>H'=H∧R 4=.int .i64 ((4+((l.take i).flatMap eT).length:Nat):Int)∧R 11=.int .i64 i∧i≤l.length) (fun i=>l.length-i) 0
  (fun R H'=>H'=H∧R 4=.int .i64 ((4+(l.flatMap eT).length:Nat):Int)) ⟨rfl,rfl,rfl,Nat.zero_le _⟩ ?_ ?_
 ·rintro i R H1⟨rfl,g4,Ar,hi⟩
  by_cases aq:i<l.length
  rotate_left
  ·have gR:i=l.length:=by omega
   subst gR
   rw[List.take_length]at g4
   simp -implicitDefEqProofs only[ai,ah,op,ef,cl,sq,reduceIte,q5,q6,q7,q9,j1,j2,j3,j4,j5,S1,List.length_map,g4,Ar,aq,cC]
  obtain⟨s,hs⟩:=bM aq
  have is:=dt (e:=eS) (n:=1) (fun _=>rfl) (by decide) (k:=kl) hs
  have gZ:=aw (show i<9223372036854775807 by omega)
  have hf:=gF (e:=eT) hs
  have hle:=gG (e:=eT) l (i+1)
  have vX:((l.take (i+1)).flatMap eT).length=((l.take i).flatMap eT).length+(4+s.size):=by rw[hf,List.length_append,dE]
  have w4:IntKind.i64.wrap (4+(s.size:Int))=((4+s.size:Nat):Int):=by rw[wrap64 (by omega)];simp
  have w5:IntKind.i64.wrap (((4+((l.take i).flatMap eT).length:Nat):Int)+((4+s.size:Nat):Int))=((4+((l.take (i+1)).flatMap eT).length:Nat):Int):=by rw[wrap64 (by omega),vX];omega
  simp -implicitDefEqProofs only[ai,ah,op,ef,cl,sq,reduceIte,q5,q6,q7,q9,j1,j2,j3,j4,j5,S1,List.length_map,g4,Ar,aq,aa,is,eS,bZ,w4,w5,gZ]
  exact⟨i+1,by omega,rfl,rfl,aq⟩
 rintro R H1⟨rfl,g4⟩
 have w0:=cL (n:=l.length) (by omega)
 simp -implicitDefEqProofs only[ai,ah,op,ef,cl,sq,reduceIte,q5,q6,q7,q9,j1,j2,j3,j4,j5,S1,g4]
 refine ae _ _ _ _ _ _ _ _ (sW h (4+(l.flatMap eT).length) hl) ?_
 rintro u H2⟨hu,rfl⟩
 cases hu
 simp -implicitDefEqProofs only[op,ef,cl,sq,reduceIte,q5,q6,q7,q9,j1,j2,j3,j4,j5,S1,List.length_map,w0]
 refine ae _ _ _ _ _ _ _ _ (yY h iA l.length 4 (by decide) (by omega)) ?_
 rintro u H3⟨hu,hp,qH⟩
 cases hu
 simp -implicitDefEqProofs only[op,ef,cl,sq,reduceIte,q5,q6,q7,q9,j1,j2,j3,j4,j5,S1,List.length_map]
 refine W.dV 2 [(0,_),(30,_),(31,_)] (fun (i:Nat) R H'=>At H' (fun H'=>PW n0 H' c (out++cd 4 l.length++(l.take i).flatMap eT)∧n0≤H'.length∧Kp n0 (fun b=>b=c) H2 H')∧R 32=.int .i64 i∧i≤l.length) (fun i=>l.length-i) 0
  (fun R H'=>At H' (fun H'=>PW n0 H' c (out++sX l)∧Kp n0 (fun b=>b=c) H2 H')) ⟨.i ⟨by simpa using hp,Nat.le_trans iA qH.len,qH⟩,rfl,Nat.zero_le _⟩ ?_ ?_
 ·rintro i R H4⟨⟨hp,zj,qH⟩,g32,hi⟩
  by_cases aq:i<l.length
  rotate_left
  ·have gR:i=l.length:=by omega
   subst gR
   rw[List.take_length,List.append_assoc]at hp
   simp -implicitDefEqProofs only[ai,ah,op,ef,cl,sq,reduceIte,q5,q6,q7,q9,j1,j2,j3,j4,j5,S1,List.length_map,g32,aq,cC]
   exact .i ⟨hp,qH⟩
  obtain⟨s,hs⟩:=bM aq
  have is:=dt (e:=eS) (n:=1) (fun _=>rfl) (by decide) (k:=kl) hs
  have gZ:=aw (show i<9223372036854775807 by omega)
  have hf:=gF (e:=eT) hs
  have hle:=gG (e:=eT) l (i+1)
  have vX:((l.take (i+1)).flatMap eT).length=((l.take i).flatMap eT).length+(4+s.size):=by rw[hf,List.length_append,dE]
  simp -implicitDefEqProofs only[ai,ah,op,ef,cl,sq,reduceIte,q5,q6,q7,q9,j1,j2,j3,j4,j5,S1,List.length_map,g32,aq,aa,is,eS,bZ]
  refine ae _ _ _ _ _ _ _ _ (wQ hp zj s (by simp -implicitDefEqProofs only[List.length_append,aF];omega)) ?_
  rintro u H5⟨hu,YP,W7⟩
  cases hu
  rw[List.append_assoc,←hf]at YP
  simp -implicitDefEqProofs only[op,ef,cl,sq,reduceIte,q5,q6,q7,q9,j1,j2,j3,j4,j5,S1,g32,gZ]
  exact⟨i+1,by omega,.i ⟨YP,Nat.le_trans zj W7.len,qH.trans W7⟩,rfl,aq⟩
 rintro R H4⟨hp,qH⟩
 simp -implicitDefEqProofs only[ai,ah,op,ef,cl,sq,reduceIte,q5,q6,q7,q9,j1,j2,j3,j4,j5,S1]
 exact⟨rfl,hp,qH⟩
theorem qi {H:af}{bytes:Nat}(new:List (List T))(hr:db new.length bytes=true)(he:∀c∈new,c.map T.erase=c):∃k' H',fP H bytes .full [] new=some (.sl k' new,H')∧Ext H H'∧fK H.length H' k'∧k'≠.nil:=by
 cases new with
 | nil=>exact⟨.full,H,by simp[fP],Ext.rfl',.inr (.inl rfl),by simp⟩
 | cons c new =>
  refine⟨.own H.length (c :: new).length,H++[.tok (c :: new).length],?_,Ext.rfl'.app _,.inr (.inr ⟨_,_,rfl,Nat.le_refl _,aE rfl⟩),by simp⟩
  unfold fP
  simp -implicitDefEqProofs only[List.length_nil,Nat.zero_add,hr,if_true,List.nil_append]
  have e:(c :: new).map (fun x=>x.map T.erase)=c :: new:=(List.map_congr_left he).trans (List.map_id _)
  rw[e]
theorem B8 (k:SK)(l:List Nat)(hk:gI k l)(hl:l.length≤4294967296)(H:af):W env (.call 74 [.sl k (l.map eB)]) H (fun o H'=>Ext H H'∧∃k',fK H.length H' k'∧gI k' l∧o=.val (.sl k' (l.map eB))):=by
 refine W.bA rfl rfl rfl ?_
 obtain⟨k',H1,ha,hx,kx,kv⟩:=qi (H:=H) (bytes:=1) (l.map eB) (ga (by simp -implicitDefEqProofs only[List.length_map];omega)) Iv
 have bD:=all_map (enc:=eB) (n:=1) (fun _=>rfl) l
 by_cases hn:k=.nil
 ·subst hn
  have:=hk rfl
  subst this
  have e0:dQ .slice (.sl .nil []) (.sl .nil [])=some true:=rfl
  simp -implicitDefEqProofs only[Gy,op,ef,cl,sq,reduceIte,q5,q6,q7,q9,j1,j2,j3,j4,j5,S1,List.map_nil,e0,Option.map_some]
  exact⟨Ext.rfl',.nil,ft _ _,fun _=>rfl,rfl⟩
 by_cases he:k=.arg∧l=[]
 ·obtain⟨rfl,rfl⟩:=he
  have e0:dQ .slice (.sl .arg []) (.sl .nil [])=none:=rfl
  simp -implicitDefEqProofs only[Gy,op,ef,cl,sq,reduceIte,q5,q6,q7,q9,j1,j2,j3,j4,j5,S1,List.map_nil,e0,Option.map_none]
  intro t
  cases t
  ·rw[List.map_nil]at ha
   simp -implicitDefEqProofs only[op,ef,cl,sq,reduceIte,q5,q6,q7,q9,j1,j2,j3,j4,j5,S1]
   simp -implicitDefEqProofs only[op,ef,cl,sq,reduceIte,q5,q6,q7,q9,j1,j2,j3,j4,j5,S1,ha]
   exact⟨hx,k',kx,(fun h=>absurd h kv),rfl⟩
  ·simp -implicitDefEqProofs only[op,ef,cl,sq,reduceIte,q5,q6,q7,q9,j1,j2,j3,j4,j5,S1]
   exact⟨Ext.rfl',.nil,ft _ _,fun _=>rfl,rfl⟩
 have fI:dQ .slice (.sl k (l.map eB)) (.sl .nil [])=some false:=by
  cases k with
  | nil=>exact absurd rfl hn
  | arg=>cases l with
   | nil=>exact absurd ⟨rfl,rfl⟩ he
   | cons a l=>rfl
  | full=>rfl
  | own t e=>rfl
 simp -implicitDefEqProofs only[Gy,op,ef,cl,sq,reduceIte,q5,q6,q7,q9,j1,j2,j3,j4,j5,S1,fI,bD,ha]
 exact⟨hx,k',kx,(fun h=>absurd h kv),rfl⟩
theorem W8 {n0:Nat}{H:af}{c:Nat}{out:List Nat}(h:PW n0 H c out)(hl:out.length≤2147483647):W env (.call 35 [.ptr c 0]) H (fun o H'=>Ext H H'∧∃k',fK H.length H' k'∧gI k' out∧o=.val (.bC [.sl k' (out.map eB),.int .i64 0])):=by
 obtain⟨⟨k,h1,h2,h4⟩,h3⟩:=h
 refine W.bA rfl rfl rfl ?_
 simp -implicitDefEqProofs only[PA,op,ef,cl,sq,reduceIte,q5,q6,q7,q9,j1,j2,j3,j4,j5,S1,h1]
 refine ae _ _ _ _ _ _ _ _ (B8 k out h4 (by omega) _) ?_
 rintro u H1⟨hx,k',kx,jP,hu⟩
 cases hu
 simp -implicitDefEqProofs only[op,ef,cl,sq,reduceIte,q5,q6,q7,q9,j1,j2,j3,j4,j5,S1]
 exact⟨hx,k',kx,jP,rfl⟩
theorem Rm (n m:Nat):IntKind.u8.wrap ((n:Int).fdiv (2^m))=((n/2^m%256:Nat):Int):=by rw[YO,sS]
theorem s24 (n:Nat):IntKind.u8.wrap ((n:Int).fdiv (2^(min (24:Int).toNat IntKind.u32.bits)))=((n/16777216%256:Nat):Int):=Rm n 24
theorem s16 (n:Nat):IntKind.u8.wrap ((n:Int).fdiv (2^(min (16:Int).toNat IntKind.u32.bits)))=((n/65536%256:Nat):Int):=Rm n 16
theorem s08 (n:Nat):IntKind.u8.wrap ((n:Int).fdiv (2^(min (8:Int).toNat IntKind.u32.bits)))=((n/256%256:Nat):Int):=Rm n 8
theorem nm4 (n:Nat):(cd 4 n).map eB=[[T.int .u8 ((n/16777216%256:Nat):Int)],[T.int .u8 ((n/65536%256:Nat):Int)],[T.int .u8 ((n/256%256:Nat):Int)],[T.int .u8 ((n%256:Nat):Int)]]:=by
 simp[cd,eB]
theorem Ix (k:SK)(l:List Nat)(hb:cT l)(hl:l.length≤4294967296)(H:af):W env (.call 36 [.sl k (l.map eB)]) H (fun o H'=>Ext H H'∧o=.val (.sl .full ((cd 4 (dF l)).map eB))):=by
 refine W.bA rfl rfl rfl ?_
 simp -implicitDefEqProofs only[PB,op,ef,cl,sq,reduceIte,q5,q6,q7,q9,j1,j2,j3,j4,j5,S1]
 refine ae _ _ _ _ _ _ _ _ (Is k l hb hl _) ?_
 rintro u H1⟨dB,hu⟩
 cases hu
 have a1:=s24 (dF l)
 have a2:=s16 (dF l)
 have a3:=s08 (dF l)
 have a4:=sS (dF l)
 rw[nm4]
 simp -implicitDefEqProofs only[op,ef,cl,sq,reduceIte,q5,q6,q7,q9,j1,j2,j3,j4,j5,S1,a1,a2,a3,a4]
 exact dB
def jR (x:Nm):List Nat:=eT x.1++cd 8 x.2
def fF (x:Kd):List Nat:=eT x.key++(cd 8 x.id++(eT x.value++sX x.keys))
def body (gen:Nat)(L:List Nm)(K:List Kd):List Nat:=cd 4 1918987632++(cd 1 1++(cd 8 gen++(cd 4 L.length++(L.flatMap jR++(cd 4 K.length++K.flatMap fF)))))
def whole (b:List Nat):List Nat:=b++cd 4 (dF b)
theorem L6 (l:List ByteArray):cT (sX l):=(fc _ _).app fun x hx=>by
 obtain⟨s,_,h⟩:=List.mem_flatMap.1 hx;exact wJ s x h
theorem L7 (x:Nm):cT (jR x):=(wJ _).app (fc _ _)
theorem L8 (x:Kd):cT (fF x):=(wJ _).app ((fc _ _).app ((wJ _).app (L6 _)))
theorem yZ {α:Type}{e:α→List Nat}(h:∀x,cT (e x))(l:List α):cT (l.flatMap e):=fun x hx=>by
 obtain⟨s,_,h'⟩:=List.mem_flatMap.1 hx;exact h s x h'
theorem ji (gen:Nat)(L:List Nm)(K:List Kd):cT (body gen L K) :=
 (fc _ _).app ((fc _ _).app ((fc _ _).app ((fc _ _).app ((yZ L7 _).app ((fc _ _).app (yZ L8 _))))))
theorem kr (gen:Nat)(L:List Nm)(K:List Kd):(body gen L K).length=21+(L.flatMap jR).length+(K.flatMap fF).length:=by
 simp -implicitDefEqProofs only[body,List.length_append,aF];omega
theorem NK.go {H0 H H':af}{c:Nat}{out:List Nat}{u:Out}(hx:Ext H0 H)(h:NK H0.length c out H u H'):u=.val (.bC [])∧PW H0.length H' c out∧Ext H0 H' :=
 ⟨h.1,h.2.1,h.2.2.ext H0 (Nat.le_refl _) hx⟩
set_option maxHeartbeats 4000000 in
theorem B9 {b:Bk}{a:Ab}{F:Nat→Prop}{m:Nat}{H:af}(h:mZ H b a F m)(hm:m≤8000000)(TI:∀k n,a.l k=some n→a.has (k,n)=true){N:List Nm}(hN:Names a N){ls:List ByteArray}(hL:dN a ls)(gen:Int)(hg:1≤gen∧gen<9223372036854775808)
  (bg:(body gen.toNat (ls.map (jt a)) (N.map (dr a))).length≤2147483647) :
  W env (.call 10 [.int .i64 gen,.ptr b.s 0]) H (fun o H'=>Ext H H'∧∃k,k≠.nil∧o=.val (.bC [.sl k ((whole (body gen.toNat (ls.map (jt a)) (N.map (dr a)))).map eB),.int .i64 0])):=by
 obtain⟨g,rfl⟩:∃g:Nat,gen=(g:Int):=⟨gen.toNat,by omega⟩
 rw[Int.toNat_natCast]at bg ⊢
 have kH:=kr g (ls.map (jt a)) (N.map (dr a))
 have e0:dQ .ptr (.ptr b.s 0) .br=some false:=rfl
 have e1:¬((g:Int)<1):=by omega
 have wg:=cL (n:=g) (by omega)
 obtain⟨L,OZ⟩:∃L,L=ls.map (jt a):=⟨_,rfl⟩
 obtain⟨K,W9⟩:∃K,K=N.map (dr a):=⟨_,rfl⟩
 rw[←OZ,←W9]at kH bg ⊢
 refine W.bA rfl rfl rfl ?_
 simp -implicitDefEqProofs only[Pj,op,ef,cl,sq,reduceIte,q5,q6,q7,q9,j1,j2,j3,j4,j5,S1,e0,e1]
 refine ae _ _ _ _ _ _ _ _ (W6 _) ?_
 rintro u H1⟨dB,hu,p1⟩
 cases hu
 have dB:Ext H H1:=dB
 simp -implicitDefEqProofs only[op,ef,cl,sq,reduceIte,q5,q6,q7,q9,j1,j2,j3,j4,j5,S1]
 refine ae _ _ _ _ _ _ _ _ (u30 p1 dB.len 1918987632 (by decide) (by simp)) ?_
 intro u H2 hq
 obtain⟨hu,p2,jc⟩:=hq.go dB
 cases hu
 simp -implicitDefEqProofs only[op,ef,cl,sq,reduceIte,q5,q6,q7,q9,j1,j2,j3,j4,j5,S1]
 refine ae _ _ _ _ _ _ _ _ (u31 p2 jc.len 1 (by decide) (by simp[aF])) ?_
 intro u H3 hq
 obtain⟨hu,p3,lC⟩:=hq.go jc
 cases hu
 simp -implicitDefEqProofs only[op,ef,cl,sq,reduceIte,q5,q6,q7,q9,j1,j2,j3,j4,j5,S1,wg]
 refine ae _ _ _ _ _ _ _ _ (u32 p3 lC.len g (by simp[aF])) ?_
 intro u H4 hq
 obtain⟨hu,p4,jn⟩:=hq.go lC
 cases hu
 simp -implicitDefEqProofs only[op,ef,cl,sq,reduceIte,q5,q6,q7,q9,j1,j2,j3,j4,j5,S1]
 refine ae _ _ _ _ _ _ _ _ (wG (h.ext jn) hm TI) ?_
 rintro u H5⟨fM,kL,ls',_,hL',hlen,hu⟩
 cases hu
 have fM:Ext H4 H5:=fM
 have els:=hL'.uniq hL
 subst els
 rw[←OZ]
 have Rn:L.length≤8000000:=by rw[OZ,List.length_map];omega
 have p5:=p4.ext fM
 have Iy:=jn.trans fM
 have wL:=wrap32 (n:=L.length) (by omega)
 obtain⟨o4,ho4⟩:∃o4,o4=cd 4 1918987632++(cd 1 1++cd 8 g):=⟨_,rfl⟩
 have eo4:[]++cd 4 1918987632++cd 1 1++cd 8 g=o4:=by rw[ho4];simp -implicitDefEqProofs only[List.nil_append,List.append_assoc]
 rw[eo4]at p5
 have lo4:o4.length=13:=by rw[ho4];simp -implicitDefEqProofs only[List.length_append,aF]
 simp -implicitDefEqProofs only[op,ef,cl,sq,reduceIte,q5,q6,q7,q9,j1,j2,j3,j4,j5,S1,List.length_map,wL]
 refine ae _ _ _ _ _ _ _ _ (u30 p5 Iy.len L.length (by omega) (by omega)) ?_
 intro u H6 hq
 obtain⟨hu,p6,jQ⟩:=hq.go Iy
 cases hu
 have hc6:=p6.lo
 simp -implicitDefEqProofs only[op,ef,cl,sq,reduceIte,q5,q6,q7,q9,j1,j2,j3,j4,j5,S1,List.length_map]
 refine W.dV 0 [(1,_),(6,_),(37,_),(38,_)] (fun (i:Nat) R H'=>At H' (fun H'=>PW H.length H' H.length (o4++cd 4 L.length++(L.take i).flatMap jR)∧Ext H H')∧R 39=.int .i64 i∧i≤L.length) (fun i=>L.length-i) 0
  (fun R H'=>At H' (fun H'=>PW H.length H' H.length (o4++cd 4 L.length++L.flatMap jR)∧Ext H H')) ⟨.i ⟨by simpa using p6,jQ⟩,rfl,Nat.zero_le _⟩ ?_ ?_
 ·rintro i R H7⟨⟨p7,nn⟩,g39,hi⟩
  by_cases aq:i<L.length
  rotate_left
  ·have gR:i=L.length:=by omega
   subst gR
   rw[List.take_length]at p7
   simp -implicitDefEqProofs only[ai,ah,op,ef,cl,sq,reduceIte,q5,q6,q7,q9,j1,j2,j3,j4,j5,S1,g39,aq,cC]
   exact .i ⟨p7,nn⟩
  obtain⟨x,hx⟩:=bM aq
  have ix:=dt (e:=eW) (n:=2) (fun _=>rfl) (by decide) (k:=kL) hx
  have gZ:=aw (show i<9223372036854775807 by omega)
  have L9:∀Hx,nu Hx 2 (.b0 (eW x))=some (eW x):=fun _=>rfl
  have hf:=gF (e:=jR) hx
  have hle:=gG (e:=jR) L (i+1)
  have vX:((L.take (i+1)).flatMap jR).length=((L.take i).flatMap jR).length+(4+x.1.size+8):=by
   rw[hf,List.length_append]
   show _+(eT x.1++cd 8 x.2).length=_
   rw[List.length_append,dE,aF]
  obtain⟨H8,zr⟩:∃H8,H8=H7++[B.cells (eW x)]:=⟨_,rfl⟩
  have nE:Ext H7 H8:=⟨_,zr⟩
  have d8:H8[H7.length]?=some (.cells (eW x)):=by rw[zr];exact aE rfl
  have bF:H7.length≠H.length:=by
   obtain⟨⟨_,d,_⟩,_⟩:=p7;have:=aQ d;omega
  have p8:=p7.ext nE
  have y6:=nn.trans nE
  simp -implicitDefEqProofs only[eW]at zr d8 L9 ix
  simp -implicitDefEqProofs only[ai,ah,op,ef,cl,sq,reduceIte,q5,q6,q7,q9,j1,j2,j3,j4,j5,S1,g39,aq,aa,eW,ix,L9,S2]
  rw[←zr]
  refine ae _ _ _ _ _ _ _ _ (wQ p8 y6.len x.1 (by simp -implicitDefEqProofs only[List.length_append,aF];omega)) ?_
  intro u H9 hq
  have d9:=hq.2.2.get _ _ d8 (by simp) bF
  obtain⟨hu,p9,y7⟩:=hq.go y6
  cases hu
  simp -implicitDefEqProofs only[op,ef,cl,sq,reduceIte,q5,q6,q7,q9,j1,j2,j3,j4,j5,S1,d9]
  refine ae _ _ _ _ _ _ _ _ (u32 p9 y7.len x.2 (by simp -implicitDefEqProofs only[List.length_append,aF,dE];omega)) ?_
  intro u pq hq
  obtain⟨hu,JA,ig⟩:=hq.go y7
  cases hu
  rw[List.append_assoc,List.append_assoc]at JA
  have adF:PW H.length pq H.length (o4++cd 4 L.length++(L.take (i+1)).flatMap jR):=by
   rw[hf,show jR x=eT x.1++cd 8 x.2 from rfl]
   simpa only[List.append_assoc]using JA
  simp -implicitDefEqProofs only[op,ef,cl,sq,reduceIte,q5,q6,q7,q9,j1,j2,j3,j4,j5,S1,g39,gZ]
  exact⟨i+1,by omega,.i ⟨adF,ig⟩,rfl,aq⟩
 rintro R H7⟨p7,nn⟩
 simp -implicitDefEqProofs only[ai,ah,op,ef,cl,sq,reduceIte,q5,q6,q7,q9,j1,j2,j3,j4,j5,S1]
 refine ae _ _ _ _ _ _ _ _ (Ia (h.ext nn) hm) ?_
 rintro u H8⟨nE,kK,N',_,hN',afx,hu⟩
 cases hu
 have nE:Ext H7 H8:=nE
 have eN:=hN'.uniq hN
 subst eN
 have eKK:N'.map (S0 a)=K.map cP:=by rw[W9,List.map_map];rfl
 rw[eKK]
 have S5:K.length≤8000000:=by rw[W9,List.length_map];omega
 have AF:∀x∈K,x.keys.length≤1024:=fun x hx=>by
  rw[W9]at hx
  obtain⟨n,_,rfl⟩:=List.mem_map.1 hx
  exact h.keys n
 have aiB:∀x∈K,x.kk=.arg:=fun x hx=>by
  rw[W9]at hx
  obtain⟨n,_,rfl⟩:=List.mem_map.1 hx
  rfl
 have p8:=p7.ext nE
 have y6:=nn.trans nE
 have wK:=wrap32 (n:=K.length) (by omega)
 simp -implicitDefEqProofs only[op,ef,cl,sq,reduceIte,q5,q6,q7,q9,j1,j2,j3,j4,j5,S1,List.length_map,wK]
 refine ae _ _ _ _ _ _ _ _ (u30 p8 y6.len K.length (by omega) (by simp -implicitDefEqProofs only[List.length_append,aF];omega)) ?_
 intro u H9 hq
 obtain⟨hu,p9,y7⟩:=hq.go y6
 cases hu
 obtain⟨o9,Ro⟩:∃o9,o9=o4++cd 4 L.length++L.flatMap jR++cd 4 K.length:=⟨_,rfl⟩
 rw[←Ro]at p9
 have lo9:o9.length=21+(L.flatMap jR).length:=by rw[Ro];simp -implicitDefEqProofs only[List.length_append,aF];omega
 simp -implicitDefEqProofs only[op,ef,cl,sq,reduceIte,q5,q6,q7,q9,j1,j2,j3,j4,j5,S1,List.length_map]
 refine W.dV 2 [(6,_),(59,_),(60,_)] (fun (i:Nat) R H'=>At H' (fun H'=>PW H.length H' H.length (o9++(K.take i).flatMap fF)∧Ext H H')∧R 61=.int .i64 i∧i≤K.length) (fun i=>K.length-i) 0
  (fun R H'=>At H' (fun H'=>PW H.length H' H.length (o9++K.flatMap fF)∧Ext H H')) ⟨.i ⟨by simpa using p9,y7⟩,rfl,Nat.zero_le _⟩ ?_ ?_
 ·rintro i R pq⟨⟨JA,ig⟩,g61,hi⟩
  by_cases aq:i<K.length
  rotate_left
  ·have gR:i=K.length:=by omega
   subst gR
   rw[List.take_length]at JA
   simp -implicitDefEqProofs only[ai,ah,op,ef,cl,sq,reduceIte,q5,q6,q7,q9,j1,j2,j3,j4,j5,S1,g61,aq,cC]
   exact .i ⟨JA,ig⟩
  obtain⟨x,hx⟩:=bM aq
  have hxm:=List.mem_of_getElem? hx
  have ix:=dt (e:=cP) (n:=5) (fun _=>rfl) (by decide) (k:=kK) hx
  have gZ:=aw (show i<9223372036854775807 by omega)
  have L9:∀Hx,nu Hx 5 (.b0 (cP x))=some (cP x):=fun _=>rfl
  have hf:=gF (e:=fF) hx
  have hle:=gG (e:=fF) K (i+1)
  have vX:((K.take (i+1)).flatMap fF).length=((K.take i).flatMap fF).length+(4+x.key.size+8+(4+x.value.size)+(sX x.keys).length):=by
   rw[hf,List.length_append]
   show _+(eT x.key++(cd 8 x.id++(eT x.value++sX x.keys))).length=_
   simp -implicitDefEqProofs only[List.length_append,dE,aF];omega
  obtain⟨xp,Ma⟩:∃xp,xp=pq++[B.cells (cP x)]:=⟨_,rfl⟩
  have qK:Ext pq xp:=⟨_,Ma⟩
  have d11:xp[pq.length]?=some (.cells (cP x)):=by rw[Ma];exact aE rfl
  have bF:pq.length≠H.length:=by
   obtain⟨⟨_,d,_⟩,_⟩:=JA;have:=aQ d;omega
  have p11:=JA.ext qK
  have NL:=ig.trans qK
  simp -implicitDefEqProofs only[cP]at Ma d11 L9 ix
  simp -implicitDefEqProofs only[ai,ah,op,ef,cl,sq,reduceIte,q5,q6,q7,q9,j1,j2,j3,j4,j5,S1,g61,aq,aa,cP,ix,L9,S2]
  rw[←Ma]
  refine ae _ _ _ _ _ _ _ _ (wQ p11 NL.len x.key (by simp -implicitDefEqProofs only[List.length_append];omega)) ?_
  intro u y8 hq
  have d12:=hq.2.2.get _ _ d11 (by simp) bF
  obtain⟨hu,p12,n9⟩:=hq.go NL
  cases hu
  simp -implicitDefEqProofs only[op,ef,cl,sq,reduceIte,q5,q6,q7,q9,j1,j2,j3,j4,j5,S1,d12]
  refine ae _ _ _ _ _ _ _ _ (u32 p12 n9.len x.id (by simp -implicitDefEqProofs only[List.length_append,dE];omega)) ?_
  intro u wT hq
  have d13:=hq.2.2.get _ _ d12 (by simp) bF
  obtain⟨hu,p13,lN⟩:=hq.go n9
  cases hu
  simp -implicitDefEqProofs only[op,ef,cl,sq,reduceIte,q5,q6,q7,q9,j1,j2,j3,j4,j5,S1,d13]
  refine ae _ _ _ _ _ _ _ _ (wQ p13 lN.len x.value (by simp -implicitDefEqProofs only[List.length_append,dE,aF];omega)) ?_
  intro u zs hq
  have d14:=hq.2.2.get _ _ d13 (by simp) bF
  obtain⟨hu,p14,wU⟩:=hq.go lN
  cases hu
  simp -implicitDefEqProofs only[op,ef,cl,sq,reduceIte,q5,q6,q7,q9,j1,j2,j3,j4,j5,S1,d14]
  refine ae _ _ _ _ _ _ _ _ (L5 p14 wU.len x.kk x.keys (by simp -implicitDefEqProofs only[List.length_append,dE,aF];omega) (by have:=AF x hxm;omega)) ?_
  intro u D5 hq
  obtain⟨hu,p15,Iz⟩:=hq.go wU
  cases hu
  have adI:PW H.length D5 H.length (o9++(K.take (i+1)).flatMap fF):=by
   rw[hf,show fF x=eT x.key++(cd 8 x.id++(eT x.value++sX x.keys)) from rfl]
   simpa only[List.append_assoc]using p15
  simp -implicitDefEqProofs only[op,ef,cl,sq,reduceIte,q5,q6,q7,q9,j1,j2,j3,j4,j5,S1,g61,gZ]
  exact⟨i+1,by omega,.i ⟨adI,Iz⟩,rfl,aq⟩
 rintro R pq⟨JA,ig⟩
 have IA:o9++K.flatMap fF=body g L K:=by rw[Ro,ho4];unfold body;simp -implicitDefEqProofs only[List.append_assoc]
 rw[IA]at JA
 have Nn:=ji g L K
 have K5:body g L K≠[]:=fun e=>by rw[e]at kH;simp at kH;omega
 generalize body g L K=bd at *
 simp -implicitDefEqProofs only[ai,ah,op,ef,cl,sq,reduceIte,q5,q6,q7,q9,j1,j2,j3,j4,j5,S1]
 refine ae _ _ _ _ _ _ _ _ (W8 JA bg) ?_
 rintro u xp⟨qK,k',kx,jP,hu⟩
 cases hu
 have qK:Ext pq xp:=qK
 simp -implicitDefEqProofs only[op,ef,cl,sq,reduceIte,q5,q6,q7,q9,j1,j2,j3,j4,j5,S1]
 refine ae _ _ _ _ _ _ _ _ (Ix k' bd Nn (by omega) _) ?_
 rintro u y8⟨n9,hu⟩
 cases hu
 have n9:Ext xp y8:=n9
 obtain⟨k2,wT,ha,zl,lH,sV⟩:=Iw bd (cd 4 (dF bd)) (kx.ext n9) (Nat.le_trans qK.len n9.len) (by rw[aF];omega)
 have hB:=sU bd
 have hB2:=sU (cd 4 (dF bd))
 have lN:Ext H wT:=(lH fun _=>False).ext H (by have:=ig.len;omega) ((ig.trans qK).trans n9)
 simp -implicitDefEqProofs only[op,ef,cl,sq,reduceIte,q5,q6,q7,q9,j1,j2,j3,j4,j5,S1,hB,hB2,ha]
 exact⟨lN,k2,fun e=>K5 (by have:=sV jP e;simp at this;exact this.1),rfl⟩
set_option maxHeartbeats 4000000 in
theorem IB {H:af}{p:Nat}{tK tL:T}{K:List Kd}{L:List Nm}{G:Nat→Prop}(h:RC H p tK tL K L G)(S5:K.length≤8000000)(Rn:L.length≤8000000)(AF:∀x∈K,x.keys.length≤1024)(gen:Int)(hg:1≤gen∧gen<9223372036854775808)
  (bg:(body gen.toNat L K).length≤4294967000) :
  W env (.call 11 [.int .i64 gen,.ptr p 0]) H (fun o H'=>Ext H H'∧∃k,o=.val (.bC [.sl k ((whole (body gen.toNat L K)).map eB),.int .i64 0])):=by
 obtain⟨g,rfl⟩:∃g:Nat,gen=(g:Int):=⟨gen.toNat,by omega⟩
 rw[Int.toNat_natCast]at bg ⊢
 have kH:=kr g L K
 have e0:dQ .ptr (.ptr p 0) .br=some false:=rfl
 have e1:¬((g:Int)<1):=by omega
 have wg:=cL (n:=g) (by omega)
 have wL:=cL (n:=L.length) (by omega)
 have wK:=cL (n:=K.length) (by omega)
 refine W.bA rfl rfl rfl ?_
 simp -implicitDefEqProofs only[K8,op,ef,cl,sq,reduceIte,q5,q6,q7,q9,j1,j2,j3,j4,j5,S1,e0,e1,wg]
 have m0:[[T.int .u8 114],[T.int .u8 97],[T.int .u8 109],[T.int .u8 112],[T.int .u8 1]]=(cd 4 1918987632++cd 1 1).map eB:=by simp[cd,eB]
 rw[m0]
 refine ae _ _ _ _ _ _ _ _ (mE (n0:=H.length) .full (cd 4 1918987632++cd 1 1) g 8 H (.inr (.inl rfl)) (Nat.le_refl _) (by decide) (by simp[aF])) ?_
 rintro u H1⟨k1,hu,nN,kJ⟩
 cases hu
 have dB:Ext H H1:=(kJ fun _=>False).ext H (Nat.le_refl _) Ext.rfl'
 obtain⟨o1,ho1⟩:∃o1,o1=cd 4 1918987632++cd 1 1++cd 8 g:=⟨_,rfl⟩
 rw[←ho1]
 have lo1:o1.length=13:=by rw[ho1];simp -implicitDefEqProofs only[List.length_append,aF]
 simp -implicitDefEqProofs only[op,ef,cl,sq,reduceIte,q5,q6,q7,q9,j1,j2,j3,j4,j5,S1]
 refine ae _ _ _ _ _ _ _ _ (yS (h.ext dB) Rn) ?_
 rintro u H2⟨jc,kL,_,hu⟩
 cases hu
 have jc:Ext H1 H2:=jc
 have Xa:=dB.trans jc
 simp -implicitDefEqProofs only[op,ef,cl,sq,reduceIte,q5,q6,q7,q9,j1,j2,j3,j4,j5,S1,List.length_map,wL]
 refine ae _ _ _ _ _ _ _ _ (mE (n0:=H.length) k1 o1 L.length 4 H2 (nN.ext jc) Xa.len (by decide) (by omega)) ?_
 rintro u H3⟨k3,hu,hk3,HG⟩
 cases hu
 have lC:Ext H H3:=(HG fun _=>False).ext H (Nat.le_refl _) Xa
 simp -implicitDefEqProofs only[op,ef,cl,sq,reduceIte,q5,q6,q7,q9,j1,j2,j3,j4,j5,S1,List.length_map]
 refine W.dV 0 [(1,_),(7,_)] (fun (i:Nat) R H'=>At H' (fun H'=>∃k,R 6=.sl k (List.map eB (o1++cd 4 L.length++(L.take i).flatMap jR))∧fK H.length H' k∧Ext H H')∧R 8=.int .i64 i∧i≤L.length) (fun i=>L.length-i) 0
  (fun R H'=>At H' (fun H'=>∃k,R 6=.sl k (List.map eB (o1++cd 4 L.length++L.flatMap jR))∧fK H.length H' k∧Ext H H')) ⟨.i ⟨k3,by simp -implicitDefEqProofs only[List.take_zero,List.flatMap_nil,List.append_nil];rfl,hk3,lC⟩,rfl,Nat.zero_le _⟩ ?_ ?_
 ·rintro i R H4⟨⟨k4,g6,S6,jn⟩,g8,hi⟩
  by_cases aq:i<L.length
  rotate_left
  ·have gR:i=L.length:=by omega
   subst gR
   rw[List.take_length]at g6
   simp -implicitDefEqProofs only[ai,ah,op,ef,cl,sq,reduceIte,q5,q6,q7,q9,j1,j2,j3,j4,j5,S1,List.length_map,g6,g8,aq,cC]
   exact .i ⟨k4,rfl,S6,jn⟩
  obtain⟨x,hx⟩:=bM aq
  have ix:=dt (e:=eW) (n:=2) (fun _=>rfl) (by decide) (k:=kL) hx
  have gZ:=aw (show i<9223372036854775807 by omega)
  have f0:oq 0 (.b0 (eW x))=some (.b0 (.str x.1 :: [.int .u64 x.2])):=rfl
  have f1:oq 1 (.b0 (eW x))=some (.b0 (.int .u64 x.2 :: [])):=rfl
  have hf:=gF (e:=jR) hx
  have hle:=gG (e:=jR) L (i+1)
  have vX:((L.take (i+1)).flatMap jR).length=((L.take i).flatMap jR).length+(4+x.1.size+8):=by
   rw[hf,List.length_append]
   show _+(eT x.1++cd 8 x.2).length=_
   rw[List.length_append,dE,aF]
  simp -implicitDefEqProofs only[ai,ah,op,ef,cl,sq,reduceIte,q5,q6,q7,q9,j1,j2,j3,j4,j5,S1,List.length_map,g6,g8,aq,aa,ix,f0,f1,bZ]
  refine ae _ _ _ _ _ _ _ _ (rb (n0:=H.length) k4 _ x.1 H4 S6 jn.len (by simp -implicitDefEqProofs only[List.length_append,aF];omega)) ?_
  rintro u H5⟨k5,hu,hk5,YP⟩
  cases hu
  have fM:Ext H H5:=(YP fun _=>False).ext H (Nat.le_refl _) jn
  simp -implicitDefEqProofs only[op,ef,cl,sq,reduceIte,q5,q6,q7,q9,j1,j2,j3,j4,j5,S1,g8,aa,ix,f1,bZ]
  refine ae _ _ _ _ _ _ _ _ (mE (n0:=H.length) k5 _ x.2 8 H5 hk5 fM.len (by decide) (by simp -implicitDefEqProofs only[List.length_append,aF,dE];omega)) ?_
  rintro u H6⟨k6,hu,hk6,hp6⟩
  cases hu
  have jQ:Ext H H6:=(hp6 fun _=>False).ext H (Nat.le_refl _) fM
  have eo:o1++cd 4 L.length++(L.take i).flatMap jR++eT x.1++cd 8 x.2=o1++cd 4 L.length++(L.take (i+1)).flatMap jR:=by
   rw[hf,show jR x=eT x.1++cd 8 x.2 from rfl]
   simp -implicitDefEqProofs only[List.append_assoc]
  rw[eo]
  simp -implicitDefEqProofs only[op,ef,cl,sq,reduceIte,q5,q6,q7,q9,j1,j2,j3,j4,j5,S1,g8,gZ]
  exact⟨i+1,by omega,.i ⟨k6,rfl,hk6,jQ⟩,rfl,aq⟩
 rintro R H4⟨k4,g6,S6,jn⟩
 simp -implicitDefEqProofs only[ai,ah,op,ef,cl,sq,reduceIte,q5,q6,q7,q9,j1,j2,j3,j4,j5,S1,g6]
 refine ae _ _ _ _ _ _ _ _ (B5 (h.ext jn) S5) ?_
 rintro u H5⟨fM,kK,_,hu⟩
 cases hu
 have fM:Ext H4 H5:=fM
 have Iy:=jn.trans fM
 simp -implicitDefEqProofs only[op,ef,cl,sq,reduceIte,q5,q6,q7,q9,j1,j2,j3,j4,j5,S1,g6,List.length_map,wK]
 refine ae _ _ _ _ _ _ _ _ (mE (n0:=H.length) k4 _ K.length 4 H5 (S6.ext fM) Iy.len (by decide) (by simp -implicitDefEqProofs only[List.length_append,aF];omega)) ?_
 rintro u H6⟨k6,hu,hk6,hp6⟩
 cases hu
 have jQ:Ext H H6:=(hp6 fun _=>False).ext H (Nat.le_refl _) Iy
 obtain⟨o9,Ro⟩:∃o9,o9=o1++cd 4 L.length++L.flatMap jR++cd 4 K.length:=⟨_,rfl⟩
 rw[←Ro]
 have lo9:o9.length=21+(L.flatMap jR).length:=by rw[Ro];simp -implicitDefEqProofs only[List.length_append,aF];omega
 simp -implicitDefEqProofs only[op,ef,cl,sq,reduceIte,q5,q6,q7,q9,j1,j2,j3,j4,j5,S1,List.length_map]
 refine W.dV 2 [(9,_)] (fun (i:Nat) R H'=>At H' (fun H'=>∃k,R 6=.sl k (List.map eB (o9++(K.take i).flatMap fF))∧fK H.length H' k∧Ext H H')∧R 10=.int .i64 i∧i≤K.length) (fun i=>K.length-i) 0
  (fun R H'=>At H' (fun H'=>∃k,R 6=.sl k (List.map eB (o9++K.flatMap fF))∧fK H.length H' k∧Ext H H')) ⟨.i ⟨k6,by simp -implicitDefEqProofs only[List.take_zero,List.flatMap_nil,List.append_nil];rfl,hk6,jQ⟩,rfl,Nat.zero_le _⟩ ?_ ?_
 ·rintro i R H7⟨⟨k7,g6,S7,nn⟩,ub,hi⟩
  by_cases aq:i<K.length
  rotate_left
  ·have gR:i=K.length:=by omega
   subst gR
   rw[List.take_length]at g6
   simp -implicitDefEqProofs only[ai,ah,op,ef,cl,sq,reduceIte,q5,q6,q7,q9,j1,j2,j3,j4,j5,S1,List.length_map,g6,ub,aq,cC]
   exact .i ⟨k7,rfl,S7,nn⟩
  obtain⟨x,hx⟩:=bM aq
  have hxm:=List.mem_of_getElem? hx
  have adM:=AF x hxm
  have ix:=dt (e:=cP) (n:=5) (fun _=>rfl) (by decide) (k:=kK) hx
  have gZ:=aw (show i<9223372036854775807 by omega)
  have f0:oq 0 (.b0 (cP x))=some (.b0 (cP x)):=rfl
  have L9:∀Hx,nu Hx 4 (.b0 (cP x))=some [.str x.key,.int .u64 x.id,.str x.value,.sl x.kk (x.keys.map eS)]:=fun _=>rfl
  have hf:=gF (e:=fF) hx
  have hle:=gG (e:=fF) K (i+1)
  have CO:=wR x.keys
  have vX:((K.take (i+1)).flatMap fF).length=((K.take i).flatMap fF).length+(4+x.key.size+8+(4+x.value.size)+(sX x.keys).length):=by
   rw[hf,List.length_append]
   show _+(eT x.key++(cd 8 x.id++(eT x.value++sX x.keys))).length=_
   simp -implicitDefEqProofs only[List.length_append,dE,aF];omega
  obtain⟨cs,tH⟩:∃cs,cs=[T.str x.key,.int .u64 x.id,.str x.value,.sl x.kk (x.keys.map eS)]:=⟨_,rfl⟩
  obtain⟨H8,zr⟩:∃H8,H8=H7++[B.cells cs]:=⟨_,rfl⟩
  have nE:Ext H7 H8:=⟨_,zr⟩
  have d8:H8[H7.length]?=some (.cells cs):=by rw[zr];exact aE rfl
  have y6:=nn.trans nE
  rw[tH]at zr d8
  simp -implicitDefEqProofs only[ai,ah,op,ef,cl,sq,reduceIte,q5,q6,q7,q9,j1,j2,j3,j4,j5,S1,List.length_map,g6,ub,aq,aa,ix,f0,L9,S2]
  rw[←zr]
  refine ae _ _ _ _ _ _ _ _ (rb (n0:=H.length) k7 _ x.key H8 (S7.ext nE) y6.len (by simp -implicitDefEqProofs only[List.length_append,aF];omega)) ?_
  rintro u H9⟨k9,hu,Xb,YQ⟩
  cases hu
  have y7:Ext H H9:=(YQ fun _=>False).ext H (Nat.le_refl _) y6
  have d9:=(YQ fun _=>False).get _ _ d8 (by simp) (fun h=>h)
  simp -implicitDefEqProofs only[op,ef,cl,sq,reduceIte,q5,q6,q7,q9,j1,j2,j3,j4,j5,S1,d9]
  refine ae _ _ _ _ _ _ _ _ (mE (n0:=H.length) k9 _ x.id 8 H9 Xb y7.len (by decide) (by simp -implicitDefEqProofs only[List.length_append,aF,dE];omega)) ?_
  rintro u pq⟨TW,hu,adN,Xc⟩
  cases hu
  have ig:Ext H pq:=(Xc fun _=>False).ext H (Nat.le_refl _) y7
  have d10:=(Xc fun _=>False).get _ _ d9 (by simp) (fun h=>h)
  simp -implicitDefEqProofs only[op,ef,cl,sq,reduceIte,q5,q6,q7,q9,j1,j2,j3,j4,j5,S1,d10]
  refine ae _ _ _ _ _ _ _ _ (rb (n0:=H.length) TW _ x.value pq adN ig.len (by simp -implicitDefEqProofs only[List.length_append,aF,dE];omega)) ?_
  rintro u xp⟨k11,hu,adO,Xd⟩
  cases hu
  have qK:Ext H xp:=(Xd fun _=>False).ext H (Nat.le_refl _) ig
  have d11:=(Xd fun _=>False).get _ _ d10 (by simp) (fun h=>h)
  have wk:=cL (n:=x.keys.length) (by omega)
  simp -implicitDefEqProofs only[op,ef,cl,sq,reduceIte,q5,q6,q7,q9,j1,j2,j3,j4,j5,S1,d11,List.length_map,wk]
  refine ae _ _ _ _ _ _ _ _ (mE (n0:=H.length) k11 _ x.keys.length 4 xp adO qK.len (by decide) (by simp -implicitDefEqProofs only[List.length_append,aF,dE];omega)) ?_
  rintro u y8⟨S8,hu,Xe,Xf⟩
  cases hu
  have n9:Ext H y8:=(Xf fun _=>False).ext H (Nat.le_refl _) qK
  have d12:=(Xf fun _=>False).get _ _ d11 (by simp) (fun h=>h)
  obtain⟨Xg,Rp⟩:∃Xg,Xg=o9++(K.take i).flatMap fF++eT x.key++cd 8 x.id++eT x.value++cd 4 x.keys.length:=⟨_,rfl⟩
  have adP:Xg++x.keys.flatMap eT=o9++(K.take (i+1)).flatMap fF:=by
   rw[Rp,hf,show fF x=eT x.key++(cd 8 x.id++(eT x.value++sX x.keys)) from rfl]
   unfold sX
   simp -implicitDefEqProofs only[List.append_assoc]
  have aiM:Xg.length=o9.length+((K.take i).flatMap fF).length+(4+x.key.size+8+(4+x.value.size)+4):=by
   rw[Rp];simp -implicitDefEqProofs only[List.length_append,dE,aF];omega
  rw[←Rp]
  simp -implicitDefEqProofs only[op,ef,cl,sq,reduceIte,q5,q6,q7,q9,j1,j2,j3,j4,j5,S1]
  refine W.dV 4 [(9,_),(10,_),(11,_)] (fun (j:Nat) R H'=>At H' (fun H'=>(∃k,R 6=.sl k (List.map eB (Xg++(x.keys.take j).flatMap eT))∧fK H.length H' k∧Ext H H')∧H'[H7.length]?=some (.cells [T.str x.key,.int .u64 x.id,.str x.value,.sl x.kk (x.keys.map eS)]))∧R 12=.int .i64 j∧j≤x.keys.length) (fun j=>x.keys.length-j) 0
   (fun R H'=>At H' (fun H'=>∃k,R 6=.sl k (List.map eB (o9++(K.take (i+1)).flatMap fF))∧fK H.length H' k∧Ext H H')) ⟨.i ⟨⟨S8,by simp -implicitDefEqProofs only[List.take_zero,List.flatMap_nil,List.append_nil];rfl,Xe,n9⟩,d12⟩,rfl,Nat.zero_le _⟩ ?_ ?_
  ·rintro j R wT⟨⟨⟨YR,g6,Mb,lN⟩,d13⟩,Xh,hj⟩
   by_cases L4:j<x.keys.length
   rotate_left
   ·have Hw:j=x.keys.length:=by omega
    subst Hw
    rw[List.take_length,adP]at g6
    simp -implicitDefEqProofs only[ai,ah,op,ef,cl,sq,reduceIte,q5,q6,q7,q9,j1,j2,j3,j4,j5,S1,List.length_map,g6,Xh,d13,L4,cC]
    exact .i ⟨YR,rfl,Mb,lN⟩
   obtain⟨t,ht⟩:=bM L4
   have it:=dt (e:=eS) (n:=1) (fun _=>rfl) (by decide) (k:=x.kk) ht
   have Q6:=aw (show j<9223372036854775807 by omega)
   have hft:=gF (e:=eT) ht
   have aiN:=gG (e:=eT) x.keys (j+1)
   have afz:((x.keys.take (j+1)).flatMap eT).length=((x.keys.take j).flatMap eT).length+(4+t.size):=by rw[hft,List.length_append,dE]
   simp -implicitDefEqProofs only[ai,ah,op,ef,cl,sq,reduceIte,q5,q6,q7,q9,j1,j2,j3,j4,j5,S1,List.length_map,g6,Xh,d13,L4,aa,it,eS,bZ]
   refine ae _ _ _ _ _ _ _ _ (rb (n0:=H.length) YR _ t wT Mb lN.len (by simp -implicitDefEqProofs only[List.length_append];omega)) ?_
   rintro u zs⟨S9,hu,IC,Xi⟩
   cases hu
   have wU:Ext H zs:=(Xi fun _=>False).ext H (Nat.le_refl _) lN
   have d14:=(Xi fun _=>False).get _ _ d13 (by simp) (fun h=>h)
   rw[List.append_assoc,←hft]
   simp -implicitDefEqProofs only[op,ef,cl,sq,reduceIte,q5,q6,q7,q9,j1,j2,j3,j4,j5,S1,Xh,Q6]
   exact⟨j+1,by omega,.i ⟨⟨S9,rfl,IC,wU⟩,d14⟩,rfl,L4⟩
  rintro R wT⟨YR,g6,Mb,lN⟩
  simp -implicitDefEqProofs only[ai,ah,op,ef,cl,sq,reduceIte,q5,q6,q7,q9,j1,j2,j3,j4,j5,S1,g6,ub,gZ]
  exact⟨i+1,by omega,.i ⟨YR,rfl,Mb,lN⟩,rfl,aq⟩
 rintro R H7⟨k7,g6,S7,nn⟩
 have IA:o9++K.flatMap fF=body g L K:=by rw[Ro,ho1];unfold body;simp -implicitDefEqProofs only[List.append_assoc]
 rw[IA]at g6
 have Nn:=ji g L K
 generalize body g L K=bd at *
 simp -implicitDefEqProofs only[ai,ah,op,ef,cl,sq,reduceIte,q5,q6,q7,q9,j1,j2,j3,j4,j5,S1,g6]
 refine ae _ _ _ _ _ _ _ _ (Iu k7 bd Nn (by omega) _) ?_
 rintro u H8⟨hu,rfl⟩
 cases hu
 have ws:=cL (n:=dF bd) (by have:=wP bd;omega)
 simp -implicitDefEqProofs only[op,ef,cl,sq,reduceIte,q5,q6,q7,q9,j1,j2,j3,j4,j5,S1,g6,ws]
 refine ae _ _ _ _ _ _ _ _ (mE (n0:=H.length) k7 bd (dF bd) 4 H8 S7 nn.len (by decide) (by omega)) ?_
 rintro u H9⟨k9,hu,Xb,YQ⟩
 cases hu
 have y7:Ext H H9:=(YQ fun _=>False).ext H (Nat.le_refl _) nn
 simp -implicitDefEqProofs only[op,ef,cl,sq,reduceIte,q5,q6,q7,q9,j1,j2,j3,j4,j5,S1]
 exact⟨y7,k9,rfl⟩
structure RD (H:af)(c:Nat)(st:Option (List Nat)):Prop where
 at_:∃k rest e,H[c]?=some (.cells [.sl k (rest.map eB),.int .i64 e])∧rest.length≤4294967296∧cT rest∧(∀l,st=some l→e=0∧rest=l)∧(st=none→e≠0)
theorem RD.ext {H H':af}{c:Nat}{st:Option (List Nat)}(h:RD H c st)(hx:Ext H H'):RD H' c st:=by
 obtain⟨k,rest,e,h1,h2⟩:=h.at_
 exact⟨k,rest,e,hx.get h1,h2⟩
theorem RD.ok {H:af}{c:Nat}{l:List Nat}(h:RD H c (some l)):∃k,H[c]?=some (.cells [.sl k (l.map eB),.int .i64 0])∧l.length≤4294967296∧cT l:=by
 obtain⟨k,rest,e,h1,h2,h3,h4,_⟩:=h.at_
 obtain⟨rfl,rfl⟩:=h4 l rfl
 exact⟨k,h1,h2,h3⟩
theorem RD.bad {H:af}{c:Nat}(h:RD H c none):∃k rest e,H[c]?=some (.cells [.sl k (rest.map eB),.int .i64 e])∧rest.length≤4294967296∧cT rest∧e≠0:=by
 obtain⟨k,rest,e,h1,h2,h3,_,h5⟩:=h.at_
 exact⟨k,rest,e,h1,h2,h3,h5 rfl⟩
theorem RD.YS {H:af}{c:Nat}{k:SK}{l:List Nat}(h:H[c]?=some (.cells [.sl k (l.map eB),.int .i64 0]))(hl:l.length≤4294967296)(hb:cT l):RD H c (some l) :=
 ⟨k,l,0,h,hl,hb,fun l' e=>⟨rfl,Option.some.inj e⟩,fun e=>by cases e⟩
theorem RD.YT {H:af}{c:Nat}{k:SK}{l:List Nat}{e:Int}(h:H[c]?=some (.cells [.sl k (l.map eB),.int .i64 e]))(hl:l.length≤4294967296)(hb:cT l)(he:e≠0):RD H c none :=
 ⟨k,l,e,h,hl,hb,fun l' e=>(by cases e),fun _=>he⟩
theorem ID {x:X}{lo hi:Option X}{R:ax}{Hx:af}{k:SK}{l:List Nat}{a b:Nat}(hx:x.ev R=.sl k (l.map eB))(ha:hJ R 0 lo=some a)(hb:hJ R l.length hi=some b)(h1:a≤b)(h2:b≤l.length) :
  au R Hx (.gH 1 x lo hi none)=some (.sl (k.cut l.length a b) (((l.take b).drop a).map eB),Hx):=by
 have bD:=sU l
 simp -implicitDefEqProofs only[au,hx,ha,List.length_map,hb]
 rw[if_pos ⟨h1,h2,bD⟩,←List.map_take,←List.map_drop]
theorem mF {k:SK}{l:List Nat}{n:Nat}(h:n≤l.length):∀R Hx a b,(X.r a).ev R=.sl k (l.map eB)→(X.r b).ev R=.int .i64 (n:Nat)→au R Hx (.gH 1 (.r a) none (some (.r b)) none)=some (.sl (k.cut l.length 0 n) ((l.take n).map eB),Hx):=fun R Hx a b ha hb=>by
 have:=ID (Hx:=Hx) (lo:=none) (hi:=some (.r b)) (a:=0) (b:=n) ha rfl (by simp -implicitDefEqProofs only[hJ,hb,aa]) (Nat.zero_le _) h
 simpa using this
theorem pb {k:SK}{l:List Nat}{n:Nat}(h:n≤l.length):∀R Hx a b,(X.r a).ev R=.sl k (l.map eB)→(X.r b).ev R=.int .i64 (n:Nat)→au R Hx (.gH 1 (.r a) (some (.r b)) none none)=some (.sl (k.cut l.length n l.length) ((l.drop n).map eB),Hx):=fun R Hx a b ha hb=>by
 have:=ID (Hx:=Hx) (lo:=some (.r b)) (hi:=none) (a:=n) (b:=l.length) ha (by simp -implicitDefEqProofs only[hJ,hb,aa]) rfl h (Nat.le_refl _)
 simpa using this
theorem Dy {k:SK}{l:List Nat}(h:4≤l.length):∀R Hx a,(X.r a).ev R=.sl k (l.map eB)→au R Hx (.gH 1 (.r a) (some (.c (.int .i64 4))) none none)=some (.sl (k.cut l.length 4 l.length) ((l.drop 4).map eB),Hx):=fun R Hx a ha=>by
 have:=ID (Hx:=Hx) (lo:=some (.c (.int .i64 4))) (hi:=none) (a:=4) (b:=l.length) ha rfl rfl h (Nat.le_refl _)
 simpa using this
theorem Mc {k:SK}{l:List Nat}{n:Nat}(h:4+n≤l.length):∀R Hx a b,(X.r a).ev R=.sl k (l.map eB)→(X.r b).ev R=.int .i64 ((4+n:Nat):Int)→au R Hx (.gH 1 (.r a) (some (.c (.int .i64 4))) (some (.r b)) none)=some (.sl (k.cut l.length 4 (4+n)) (((l.drop 4).take n).map eB),Hx):=fun R Hx a b ha hb=>by
 have:=ID (Hx:=Hx) (lo:=some (.c (.int .i64 4))) (hi:=some (.r b)) (a:=4) (b:=4+n) ha rfl (by simp -implicitDefEqProofs only[hJ,hb,aa]) (by omega) h
 have e:(l.take (4+n)).drop 4=(l.drop 4).take n:=by rw[List.drop_take];congr 1;omega
 rw[e]at this
 exact this
theorem Xj {v:Nat}(h:v*256<18446744073709551616):IntKind.u64.wrap ((v:Int)*2^(min (8:Int).toNat IntKind.u64.bits))=((v*256:Nat):Int):=by
 have e:(v:Int)*2^(min (8:Int).toNat IntKind.u64.bits)=((v*256:Nat):Int):=by
  show(v:Int)*256=_
  simp
 rw[e,cL h]
theorem or8 {v c:Nat}(h:v*256<18446744073709551616)(hc:c<256):IntKind.u64.wrap ((BitVec.ofInt IntKind.u64.bits ((v*256:Nat):Int) ||| BitVec.ofInt IntKind.u64.bits (c:Int)).toNat:Nat)=((v*256+c:Nat):Int):=by
 have e:(BitVec.ofInt IntKind.u64.bits ((v*256:Nat):Int) ||| BitVec.ofInt IntKind.u64.bits (c:Int)).toNat=v*256 ||| c:=WX 64 _ _ h (by omega)
 have e2:v*256 ||| c=v*256+c:=by
  rw[Nat.mul_comm]
  exact(Nat.two_pow_add_eq_or_of_lt (i:=8) (by omega) v).symm
 rw[e,e2,cL (by omega)]
theorem y9 (l:List Nat)(c:Nat):lM 0 (l++[c])=lM 0 l*256+c:=by simp[lM]
def YU (H:af)(c n:Nat)(l:List Nat):Out→af→Prop:=fun o H'=>match pN n l with
 | none=>o=.val (.bC [.int .u64 0,.bool false])∧RD H' c none∧a6 (fun b=>b=c) H H'
 | some (v,_)=>o=.val (.bC [.int .u64 v,.bool true])∧H'=H
theorem NM {H:af}{c:Nat}(h:RD H c none)(n:Nat):W env (.call 115 [.ptr c 0,.int .i64 n]) H (fun o H'=>o=.val (.bC [.int .u64 0,.bool false])∧H'=H):=by
 obtain⟨k,rest,e,h1,h2,h3,h4⟩:=h.bad
 have e1:(e==0)=false:=by simpa using h4
 have e2:(e != 0)=true:=by simpa using h4
 refine W.bA rfl rfl rfl ?_
 simp -implicitDefEqProofs only[yx,op,ef,cl,sq,reduceIte,q5,q6,q7,q9,j1,j2,j3,j4,j5,S1,h1,e1,e2]
theorem Ca {H:af}{c:Nat}{l:List Nat}(h:RD H c (some l))(n:Nat)(hn:n≤8):W env (.call 115 [.ptr c 0,.int .i64 n]) H (YU H c n l):=by
 obtain⟨k,h1,h2,h3⟩:=h.ok
 have lc:=aQ h1
 refine W.bA rfl rfl rfl ?_
 unfold YU pN
 by_cases hs:l.length<n
 ·have ff:decide ((l.length:Int)<(n:Int))=true:=by simp;omega
  rw[if_pos hs]
  simp -implicitDefEqProofs only[yx,op,ef,cl,sq,reduceIte,q5,q6,q7,q9,j1,j2,j3,j4,j5,S1,h1,List.length_map,hs,ff,lc,S2]
  exact⟨RD.YT (bQ lc) h2 h3 (by decide),a6.set (F:=fun b=>b=c) (a6.refl _ _) (.inl rfl) _⟩
 ·rw[if_neg hs]
  have ff:decide ((l.length:Int)<(n:Int))=false:=by simp;omega
  have De:=mF (k:=k) (l:=l) (n:=n) (by omega)
  obtain⟨lt,aq⟩:∃lt,lt=l.take n:=⟨_,rfl⟩
  have aiO:lt.length=n:=by rw[aq,List.length_take];omega
  have Xk:cT lt:=by rw[aq];exact h3.take n
  rw[←aq]at De ⊢
  simp -implicitDefEqProofs only[yx,op,ef,cl,sq,reduceIte,q5,q6,q7,q9,j1,j2,j3,j4,j5,S1,h1,List.length_map,hs,ff,↓De]
  refine W.dV 0 [(36,_),(37,_)] (fun (i:Nat) R H'=>H'=H∧R 6=.int .u64 (lM 0 (lt.take i):Nat)∧R 38=.int .i64 i∧i≤lt.length) (fun i=>lt.length-i) 0
   (fun R H'=>H'=H∧R 6=.int .u64 (lM 0 lt:Nat)) ⟨rfl,rfl,rfl,Nat.zero_le _⟩ ?_ ?_
  ·rintro i R H1⟨rfl,g6,g38,hi⟩
   by_cases rv:i<lt.length
   rotate_left
   ·have gR:i=lt.length:=by omega
    rw[gR,List.take_length]at g6
    simp -implicitDefEqProofs only[ai,ah,op,ef,cl,sq,reduceIte,q5,q6,q7,q9,j1,j2,j3,j4,j5,S1,List.length_map,g6,g38,rv,cC]
   obtain⟨x,hx⟩:=bM rv
   have IE:=Xk x (List.mem_of_getElem? hx)
   have ix:=dt (e:=eB) (n:=1) (fun _=>rfl) (by decide) (k:=k.cut l.length 0 n) hx
   have gZ:=aw (show i<9223372036854775807 by omega)
   have kF:lM 0 (lt.take i)*256<18446744073709551616:=by
    have h5:=sO (lt.take i) 0 (Xk.take i)
    have h6:(lt.take i).length≤7:=by rw[List.length_take];omega
    have h7:256^(lt.take i).length≤256^7:=Nat.pow_le_pow_right (by decide) h6
    have h8:(256:Nat)^7=72057594037927936:=by decide
    omega
   have wx:=cL (n:=x) (by omega)
   have a1:=Xj kF
   have a2:=or8 kF IE
   have n8:¬((8:Int)<0):=by decide
   simp -implicitDefEqProofs only[ai,ah,op,ef,cl,sq,reduceIte,q5,q6,q7,q9,j1,j2,j3,j4,j5,S1,List.length_map,g6,g38,rv,aa,ix,eB,bZ,n8,a1,wx,a2,gZ]
   exact⟨i+1,by omega,by rw[fe hx,y9],rfl,rv⟩
  rintro R H1⟨rfl,g6⟩
  simp -implicitDefEqProofs only[ai,ah,op,ef,cl,sq,reduceIte,q5,q6,q7,q9,j1,j2,j3,j4,j5,S1,g6]
def Ta (c:Nat)(t:T)(st:Option (List Nat))(H:af):Out→af→Prop:=fun o H'=>o=.val t∧RD H' c st∧a6 (fun b=>b=c) H H'
def b9 (n:Nat):Option (List Nat)→Nat×Option (List Nat)
 | none=>(0,none)
 | some l=>match pN n l with
  | none=>(0,none)
  | some (v,r)=>(v,some r)
theorem wV {n:Nat}{st:Option (List Nat)}(hb:∀l,st=some l→cT l):(b9 n st).1<256^n:=by
 have hp:0<256^n:=Nat.pow_pos (by decide)
 cases st with
 | none=>exact hp
 | some l =>
  unfold b9
  simp only
  cases h:pN n l with
  | none=>exact hp
  | some x=>exact(fp (hb l rfl) h).2.1
theorem sY {H:af}{c:Nat}{st:Option (List Nat)}(h:RD H c st)(n:Nat)(hn:n≤8):W env (.call 89 [.ptr c 0,.int .i64 n]) H (Ta c (.int .u64 (b9 n st).1) (b9 n st).2 H):=by
 refine W.bA rfl rfl rfl ?_
 simp -implicitDefEqProofs only[Qi,op,ef,cl,sq,reduceIte,q5,q6,q7,q9,j1,j2,j3,j4,j5,S1]
 cases st with
 | none =>
  refine ae _ _ _ _ _ _ _ _ (NM h n) ?_
  rintro u H1⟨hu,rfl⟩
  cases hu
  simp -implicitDefEqProofs only[op,ef,cl,sq,reduceIte,q5,q6,q7,q9,j1,j2,j3,j4,j5,S1]
  exact⟨rfl,h,a6.refl _ _⟩
 | some l =>
  obtain⟨k,h1,h2,h3⟩:=h.ok
  have lc:=aQ h1
  refine ae _ _ _ _ _ _ _ _ (Ca h n hn) ?_
  intro u H1 hq
  unfold YU at hq
  cases hp:pN n l with
  | none =>
   have es:b9 n (some l)=(0,none):=by simp -implicitDefEqProofs only[b9,hp]
   rw[hp]at hq
   rw[es]
   obtain⟨hu,hr,hk⟩:=hq
   cases hu
   simp -implicitDefEqProofs only[op,ef,cl,sq,reduceIte,q5,q6,q7,q9,j1,j2,j3,j4,j5,S1]
   exact⟨rfl,hr,hk⟩
  | some x =>
   obtain⟨v,r⟩:=x
   have es:b9 n (some l)=(v,some r):=by simp -implicitDefEqProofs only[b9,hp]
   rw[hp]at hq
   rw[es]
   obtain⟨hu,rfl⟩:=hq
   cases hu
   have Jk:n≤l.length:=by
    unfold pN at hp;split at hp
    ·cases hp
    ·omega
   have hr:r=l.drop n:=by
    unfold pN at hp;rw[if_neg (by omega)]at hp
    simp -implicitDefEqProofs only[Option.some.injEq,Prod.mk.injEq]at hp;exact hp.2.symm
   have De:=pb (k:=k) Jk
   simp -implicitDefEqProofs only[op,ef,cl,sq,reduceIte,q5,q6,q7,q9,j1,j2,j3,j4,j5,S1,h1,lc,↓De,S2]
   subst hr
   refine⟨rfl,RD.YS (k:=k.cut l.length n l.length) (bQ lc) (by rw[List.length_drop];omega) (h3.drop n),a6.set (F:=fun b=>b=c) (a6.refl _ _) (.inl rfl) _⟩
theorem RD.JB {H:af}{c:Nat}{st:Option (List Nat)}(h:RD H c st):∀l,st=some l→cT l:=fun l e=>by subst e;obtain⟨_,_,_,h⟩:=h.ok;exact h
theorem adQ {H:af}{c:Nat}{st:Option (List Nat)}(h:RD H c st):W env (.call 49 [.ptr c 0]) H (Ta c (.int .u32 (b9 4 st).1) (b9 4 st).2 H):=by
 have aq:(b9 4 st).1<4294967296:=wV (n:=4) h.JB
 have wv:=wrap32 aq
 refine W.bA rfl rfl rfl ?_
 simp -implicitDefEqProofs only[PJ,op,ef,cl,sq,reduceIte,q5,q6,q7,q9,j1,j2,j3,j4,j5,S1]
 refine ae _ _ _ _ _ _ _ _ (sY h 4 (by decide)) ?_
 rintro u H1⟨hu,hr,hk⟩
 cases hu
 simp -implicitDefEqProofs only[op,ef,cl,sq,reduceIte,q5,q6,q7,q9,j1,j2,j3,j4,j5,S1,wv]
 exact⟨rfl,hr,hk⟩
theorem adR {H:af}{c:Nat}{st:Option (List Nat)}(h:RD H c st):W env (.call 50 [.ptr c 0]) H (Ta c (.int .u8 (b9 1 st).1) (b9 1 st).2 H):=by
 have aq:(b9 1 st).1<256:=wV (n:=1) h.JB
 have wv:=yz aq
 refine W.bA rfl rfl rfl ?_
 simp -implicitDefEqProofs only[PK,op,ef,cl,sq,reduceIte,q5,q6,q7,q9,j1,j2,j3,j4,j5,S1]
 refine ae _ _ _ _ _ _ _ _ (sY h 1 (by decide)) ?_
 rintro u H1⟨hu,hr,hk⟩
 cases hu
 simp -implicitDefEqProofs only[op,ef,cl,sq,reduceIte,q5,q6,q7,q9,j1,j2,j3,j4,j5,S1,wv]
 exact⟨rfl,hr,hk⟩
theorem Rq {H:af}{c:Nat}{st:Option (List Nat)}(h:RD H c st):W env (.call 51 [.ptr c 0]) H (Ta c (.int .u64 (b9 8 st).1) (b9 8 st).2 H):=by
 refine W.bA rfl rfl rfl ?_
 simp -implicitDefEqProofs only[PL,op,ef,cl,sq,reduceIte,q5,q6,q7,q9,j1,j2,j3,j4,j5,S1]
 refine ae _ _ _ _ _ _ _ _ (sY h 8 (by decide)) ?_
 rintro u H1⟨hu,hr,hk⟩
 cases hu
 simp -implicitDefEqProofs only[op,ef,cl,sq,reduceIte,q5,q6,q7,q9,j1,j2,j3,j4,j5,S1]
 exact⟨rfl,hr,hk⟩
def pC (m:Nat)(l:List Nat):Option (Nat×List Nat):=match pN 4 l with
 | none=>none
 | some (v,r)=>if m<v then none else some (v,r)
def YV (H:af)(c m:Nat)(l:List Nat):Out→af→Prop:=fun o H'=>match pC m l with
 | none=>o=.val (.bC [.int .i64 0,.bool false])∧RD H' c none∧a6 (fun b=>b=c) H H'
 | some (v,_)=>o=.val (.bC [.int .i64 v,.bool true])∧H'=H
theorem za {H:af}{c:Nat}(h:RD H c none)(m:Nat)(hm:m<9223372036854775808):W env (.call 90 [.ptr c 0,.int .i64 m]) H (fun o H'=>o=.val (.bC [.int .i64 0,.bool false])∧H'=H):=by
 refine W.bA rfl rfl rfl ?_
 simp -implicitDefEqProofs only[Lf,op,ef,cl,sq,reduceIte,q5,q6,q7,q9,j1,j2,j3,j4,j5,S1]
 refine ae _ _ _ _ _ _ _ _ (NM h 4) ?_
 rintro u H1⟨hu,rfl⟩
 cases hu
 have w0:IntKind.i64.wrap 0=0:=rfl
 simp -implicitDefEqProofs only[op,ef,cl,sq,reduceIte,q5,q6,q7,q9,j1,j2,j3,j4,j5,S1,w0]
theorem vq {H:af}{c:Nat}{l:List Nat}(h:RD H c (some l))(m:Nat)(hm:m<9223372036854775808):W env (.call 90 [.ptr c 0,.int .i64 m]) H (YV H c m l):=by
 obtain⟨k,h1,h2,h3⟩:=h.ok
 have lc:=aQ h1
 refine W.bA rfl rfl rfl ?_
 simp -implicitDefEqProofs only[Lf,op,ef,cl,sq,reduceIte,q5,q6,q7,q9,j1,j2,j3,j4,j5,S1]
 refine ae _ _ _ _ _ _ _ _ (Ca h 4 (by decide)) ?_
 intro u H1 hq
 unfold YU at hq
 unfold YV pC
 cases hp:pN 4 l with
 | none =>
  rw[hp]at hq
  obtain⟨hu,hr,hk⟩:=hq
  cases hu
  have w0:IntKind.i64.wrap 0=0:=rfl
  simp -implicitDefEqProofs only[op,ef,cl,sq,reduceIte,q5,q6,q7,q9,j1,j2,j3,j4,j5,S1,w0]
  exact⟨hr,hk⟩
 | some x =>
  obtain⟨v,r⟩:=x
  rw[hp]at hq
  obtain⟨hu,rfl⟩:=hq
  cases hu
  have hv:=(fp h3 hp).2.1
  have hv:v<4294967296:=hv
  have e0:(if (0:Int)>(m:Int)then(0:Int)else(m:Int))=(m:Int):=if_neg (by omega)
  have wm:=cL (n:=m) (by omega)
  by_cases hb:m<v
  ·have e1:decide ((v:Int)>(m:Int))=true:=by simp;omega
   simp -implicitDefEqProofs only[op,ef,cl,sq,reduceIte,q5,q6,q7,q9,j1,j2,j3,j4,j5,S1,e0,wm,e1,h1,lc,S2,hb]
   exact⟨RD.YT (bQ lc) h2 h3 (by decide),a6.set (F:=fun b=>b=c) (a6.refl _ _) (.inl rfl) _⟩
  ·have e1:decide ((v:Int)>(m:Int))=false:=by simp;omega
   have wv:IntKind.i64.wrap (v:Int)=(v:Int):=wrap64 (by omega)
   simp -implicitDefEqProofs only[op,ef,cl,sq,reduceIte,q5,q6,q7,q9,j1,j2,j3,j4,j5,S1,e0,wm,e1,hb,wv]
theorem oa:∀l:List Nat,bytesOf (l.map eB)=some (l.map UInt8.ofNat)
 | []=>rfl
 | x :: l=>by
  show(bytesOf (l.map eB)).map (UInt8.ofNat ((x:Int)).toNat :: ·)=_
  rw[oa l];rfl
theorem Dz {k:SK}{l:List Nat}:∀R Hx a,(X.r a).ev R=.sl k (l.map eB)→au R Hx (.AO (.r a))=some (.str (ue l),Hx):=fun R Hx a ha=>by
 have bD:=sU l
 simp -implicitDefEqProofs only[au,ha,bG,bD,if_true,oa]
 rfl
theorem Cb {n v:Nat}{l r:List Nat}(h:pN n l=some (v,r)):n≤l.length∧r=l.drop n:=by
 unfold pN at h
 split at h
 ·cases h
 ·simp -implicitDefEqProofs only[Option.some.injEq,Prod.mk.injEq]at h
  exact⟨by omega,h.2.symm⟩
theorem lu {m v:Nat}{l r:List Nat}(h:pC m l=some (v,r)):pN 4 l=some (v,r)∧v≤m:=by
 unfold pC at h
 cases hp:pN 4 l with
 | none=>rw[hp]at h;cases h
 | some x =>
  obtain⟨v',r'⟩:=x
  rw[hp]at h
  simp only at h
  split at h
  ·cases h
  ·simp -implicitDefEqProofs only[Option.some.injEq,Prod.mk.injEq]at h
   obtain⟨rfl,rfl⟩:=h
   exact⟨rfl,by omega⟩
def qj (m:Nat):Option (List Nat)→Nat×Option (List Nat)
 | none=>(0,none)
 | some l=>match pC m l with
  | none=>(0,none)
  | some (v,r)=>(v,some r)
def cY (m:Nat):Option (List Nat)→ByteArray×Option (List Nat)
 | none=>(⟨#[]⟩,none)
 | some l=>match pT m l with
  | none=>(⟨#[]⟩,none)
  | some (v,r)=>(v,some r)
theorem wW {H:af}{c:Nat}{st:Option (List Nat)}(h:RD H c st)(m:Nat)(hm:m<9223372036854775808):W env (.call 53 [.ptr c 0,.int .i64 m]) H (Ta c (.int .i64 (qj m st).1) (qj m st).2 H):=by
 refine W.bA rfl rfl rfl ?_
 simp -implicitDefEqProofs only[PN,op,ef,cl,sq,reduceIte,q5,q6,q7,q9,j1,j2,j3,j4,j5,S1]
 cases st with
 | none =>
  refine ae _ _ _ _ _ _ _ _ (za h m hm) ?_
  rintro u H1⟨hu,rfl⟩
  cases hu
  simp -implicitDefEqProofs only[op,ef,cl,sq,reduceIte,q5,q6,q7,q9,j1,j2,j3,j4,j5,S1]
  exact⟨rfl,h,a6.refl _ _⟩
 | some l =>
  obtain⟨k,h1,h2,h3⟩:=h.ok
  have lc:=aQ h1
  refine ae _ _ _ _ _ _ _ _ (vq h m hm) ?_
  intro u H1 hq
  unfold YV at hq
  cases hp:pC m l with
  | none =>
   have es:qj m (some l)=(0,none):=by simp -implicitDefEqProofs only[qj,hp]
   rw[hp]at hq
   rw[es]
   obtain⟨hu,hr,hk⟩:=hq
   cases hu
   simp -implicitDefEqProofs only[op,ef,cl,sq,reduceIte,q5,q6,q7,q9,j1,j2,j3,j4,j5,S1]
   exact⟨rfl,hr,hk⟩
  | some x =>
   obtain⟨v,r⟩:=x
   have es:qj m (some l)=(v,some r):=by simp -implicitDefEqProofs only[qj,hp]
   rw[hp]at hq
   rw[es]
   obtain⟨hu,rfl⟩:=hq
   cases hu
   obtain⟨qd,_⟩:=lu hp
   obtain⟨Jk,rfl⟩:=Cb qd
   have De:=Dy (k:=k) Jk
   simp -implicitDefEqProofs only[op,ef,cl,sq,reduceIte,q5,q6,q7,q9,j1,j2,j3,j4,j5,S1,h1,lc,↓De,S2]
   exact⟨rfl,RD.YS (k:=k.cut l.length 4 l.length) (bQ lc) (by rw[List.length_drop];omega) (h3.drop 4),a6.set (F:=fun b=>b=c) (a6.refl _ _) (.inl rfl) _⟩
theorem NN {H:af}{c:Nat}{st:Option (List Nat)}(h:RD H c st):W env (.call 54 [.ptr c 0]) H (fun o H'=>H'=H∧∃e:Int,o=.val (.int .i64 e)∧(e=0↔st≠none)):=by
 refine W.bA rfl rfl rfl ?_
 cases st with
 | none =>
  obtain⟨k,rest,e,h1,h2,h3,h4⟩:=h.bad
  simp -implicitDefEqProofs only[La,op,ef,cl,sq,reduceIte,q5,q6,q7,q9,j1,j2,j3,j4,j5,S1,h1]
  exact⟨e,rfl,by simp[h4]⟩
 | some l =>
  obtain⟨k,h1,h2,h3⟩:=h.ok
  simp -implicitDefEqProofs only[La,op,ef,cl,sq,reduceIte,q5,q6,q7,q9,j1,j2,j3,j4,j5,S1,h1]
  exact⟨0,rfl,by simp⟩
theorem Xl {H:af}{c:Nat}{st:Option (List Nat)}(h:RD H c st):W env (.call 57 [.ptr c 0]) H (fun o H'=>H'=H∧∃e:Int,o=.val (.int .i64 e)∧(e=0↔st=some [])):=by
 refine W.bA rfl rfl rfl ?_
 cases st with
 | none =>
  obtain⟨k,rest,e,h1,h2,h3,h4⟩:=h.bad
  have e1:(e==0)=false:=by simpa using h4
  simp -implicitDefEqProofs only[Gx,op,ef,cl,sq,reduceIte,q5,q6,q7,q9,j1,j2,j3,j4,j5,S1,h1,e1]
  exact⟨e,rfl,by simp[h4]⟩
 | some l =>
  obtain⟨k,h1,h2,h3⟩:=h.ok
  by_cases hl:l=[]
  ·subst hl
   simp -implicitDefEqProofs only[Gx,op,ef,cl,sq,reduceIte,q5,q6,q7,q9,j1,j2,j3,j4,j5,S1,h1,List.map_nil,List.length_nil]
   exact⟨0,rfl,by simp⟩
  ·have zY:0<l.length:=List.length_pos_iff.2 hl
   have e1:decide ((l.length:Int)>0)=true:=by simp;exact zY
   simp -implicitDefEqProofs only[Gx,op,ef,cl,sq,reduceIte,q5,q6,q7,q9,j1,j2,j3,j4,j5,S1,h1,List.length_map,e1]
   exact⟨5,rfl,by simp[hl]⟩
theorem pc {H:af}{c:Nat}{st:Option (List Nat)}(h:RD H c st)(m:Nat)(hm:m<9223372036854775808):W env (.call 55 [.ptr c 0,.int .i64 m]) H (Ta c (.str (cY m st).1) (cY m st).2 H):=by
 refine W.bA rfl rfl rfl ?_
 simp -implicitDefEqProofs only[PO,op,ef,cl,sq,reduceIte,q5,q6,q7,q9,j1,j2,j3,j4,j5,S1]
 cases st with
 | none =>
  refine ae _ _ _ _ _ _ _ _ (za h m hm) ?_
  rintro u H1⟨hu,rfl⟩
  cases hu
  simp -implicitDefEqProofs only[op,ef,cl,sq,reduceIte,q5,q6,q7,q9,j1,j2,j3,j4,j5,S1]
  exact⟨rfl,h,a6.refl _ _⟩
 | some l =>
  obtain⟨k,h1,h2,h3⟩:=h.ok
  have lc:=aQ h1
  refine ae _ _ _ _ _ _ _ _ (vq h m hm) ?_
  intro u H1 hq
  unfold YV at hq
  cases hp:pC m l with
  | none =>
   have es:cY m (some l)=(⟨#[]⟩,none):=by
    have:pT m l=none:=by
     unfold pT
     unfold pC at hp
     cases h4:pN 4 l with
     | none=>rfl
     | some x =>
      obtain⟨v,r⟩:=x
      rw[h4]at hp
      simp only at hp ⊢
      split at hp
      ·rename_i hc;rw[if_pos hc]
      ·cases hp
    simp -implicitDefEqProofs only[cY,this]
   rw[hp]at hq
   rw[es]
   obtain⟨hu,hr,hk⟩:=hq
   cases hu
   simp -implicitDefEqProofs only[op,ef,cl,sq,reduceIte,q5,q6,q7,q9,j1,j2,j3,j4,j5,S1]
   exact⟨rfl,hr,hk⟩
  | some x =>
   obtain⟨v,r⟩:=x
   rw[hp]at hq
   obtain⟨hu,rfl⟩:=hq
   cases hu
   obtain⟨qd,hvm⟩:=lu hp
   have hv4:v<4294967296:=(fp h3 qd).2.1
   obtain⟨Jk,hr⟩:=Cb qd
   have w4:IntKind.i64.wrap ((l.length:Int)-4)=((l.length-4:Nat):Int):=by rw[wrap64 (by omega)];omega
   have ept:pT m l=if r.length<v then none else some (ue (r.take v),r.drop v):=by
    unfold pT;rw[qd];simp only;rw[if_neg (by omega)]
   have hrl:r.length=l.length-4:=by rw[hr,List.length_drop]
   by_cases E3:r.length<v
   ·have es:cY m (some l)=(⟨#[]⟩,none):=by simp -implicitDefEqProofs only[cY,ept,E3,if_true]
    have e1:decide (((l.length-4:Nat):Int)<(v:Int))=true:=by simp;omega
    rw[es]
    simp -implicitDefEqProofs only[op,ef,cl,sq,reduceIte,q5,q6,q7,q9,j1,j2,j3,j4,j5,S1,h1,lc,List.length_map,w4,e1,S2]
    exact⟨rfl,RD.YT (bQ lc) h2 h3 (by decide),a6.set (F:=fun b=>b=c) (a6.refl _ _) (.inl rfl) _⟩
   ·have es:cY m (some l)=(ue (r.take v),some (r.drop v)):=by simp -implicitDefEqProofs only[cY,ept,E3,if_false]
    have e1:decide (((l.length-4:Nat):Int)<(v:Int))=false:=by simp;omega
    have w5:IntKind.i64.wrap (4+(v:Int))=((4+v:Nat):Int):=by rw[wrap64 (by omega)];omega
    have De:=Mc (k:=k) (l:=l) (n:=v) (by omega)
    have YW:=pb (k:=k) (l:=l) (n:=4+v) (by omega)
    have hd:r.drop v=l.drop (4+v):=by rw[hr,List.drop_drop]
    rw[es]
    rw[←hr]at De
    have rJ:=Dz (k:=k.cut l.length 4 (4+v)) (l:=r.take v)
    rw[←hd]at YW
    simp -implicitDefEqProofs only[op,ef,cl,sq,reduceIte,q5,q6,q7,q9,j1,j2,j3,j4,j5,S1,h1,lc,List.length_map,w4,e1,w5,↓De,↓YW,↓rJ,S2]
    exact⟨rfl,RD.YS (k:=k.cut l.length (4+v) l.length) (bQ lc) (by rw[hd,List.length_drop];omega) (by rw[hd];exact h3.drop _),a6.set (F:=fun b=>b=c) (a6.refl _ _) (.inl rfl) _⟩
theorem Rt (k:SK)(l:List Nat)(hk:gI k l)(hl:l.length≤4294967296)(hb:cT l)(H:af):W env (.call 48 [.sl k (l.map eB)]) H (fun o H'=>Ext H H'∧∃c,H.length≤c∧o=.val (.ptr c 0)∧RD H' c (some l)):=by
 refine W.bA rfl rfl rfl ?_
 simp -implicitDefEqProofs only[PI,op,ef,cl,sq,reduceIte,q5,q6,q7,q9,j1,j2,j3,j4,j5,S1]
 refine ae _ _ _ _ _ _ _ _ (B8 k l hk hl _) ?_
 rintro u H1⟨dB,k',_,_,hu⟩
 cases hu
 have dB:Ext H H1:=dB
 simp -implicitDefEqProofs only[op,ef,cl,sq,reduceIte,q5,q6,q7,q9,j1,j2,j3,j4,j5,S1]
 exact⟨dB.app _,H1.length,dB.len,rfl,RD.YS (aE rfl) hl hb⟩
def wX (c m:Nat)(l:List Nat):Option (List ByteArray×List Nat):=match pC c l with
 | none=>none
 | some (n,r)=>pM (pT m) r n
def jM (c m:Nat):Option (List Nat)→List ByteArray×Option (List Nat)
 | none=>([],none)
 | some l=>match wX c m l with
  | none=>([],none)
  | some (v,r)=>(v,some r)
def stM {α:Type}(p:List Nat→Option (α×List Nat))(n:Nat):Option (List Nat)→List α×Option (List Nat)
 | none=>([],none)
 | some l=>match pM p l n with
  | none=>([],none)
  | some (v,r)=>(v,some r)
def zb {α:Type}(p:List Nat→Option (α×List Nat))(H:af)(c n:Nat)(st:Option (List Nat))(i:Nat)(xs:List α):Prop :=
 (∃l r,st=some l∧pM p l i=some (xs,r)∧RD H c (some r))∨(RD H c none∧∀l,st=some l→pM p l n=none)
theorem RD.lt {H:af}{c:Nat}{st:Option (List Nat)}(h:RD H c st):c<H.length:=by
 obtain⟨k,rest,e,h1,_⟩:=h.at_;exact aQ h1
theorem oP.hO {n0:Nat}{H H':af}{k:SK}(h:oP n0 H k H'):a6 (fun c=>∃e,k=.own c e) H H':=⟨h.len,fun c hc hn=>by
 obtain⟨x,hx⟩:=bM hc
 rw[hx];exact h.get c x hx fun e he=>hn ⟨e,he⟩⟩
theorem fK.hO {n0:Nat}{H H':af}{k:SK}(h:fK n0 H k){F:Nat→Prop}(hf:a6 F H H')(hF:∀t,n0≤t→¬F t):fK n0 H' k:=by
 rcases h with h|h|⟨t,e,h,h1,h2⟩
 ·exact .inl h
 ·exact .inr (.inl h)
 ·exact .inr (.inr ⟨t,e,h,h1,hf.get h2 (hF t h1)⟩)
theorem fK.own {n0:Nat}{H:af}{k:SK}(h:fK n0 H k){t e:Nat}(hk:k=.own t e):n0≤t:=by
 rcases h with h|h|⟨t',e',h,h1,h2⟩
 ·rw[h]at hk;cases hk
 ·rw[h]at hk;cases hk
 ·rw[h]at hk;cases hk;exact h1
def RTQ (c:Nat)(xs:List ByteArray)(st:Option (List Nat))(H:af):Out→af→Prop:=fun o H'=>∃kk,gI kk xs∧o=.val (.sl kk (xs.map eS))∧RD H' c st∧a6 (fun b=>b=c) H H'
set_option maxHeartbeats 1000000 in
theorem DA {H:af}{c:Nat}{st:Option (List Nat)}(h:RD H c st)(cm m:Nat)(Sy:cm≤8000000)(hm:m<9223372036854775808):W env (.call 56 [.ptr c 0,.int .i64 cm,.int .i64 m]) H (RTQ c (jM cm m st).1 (jM cm m st).2 H):=by
 obtain⟨k0,rest,e0,d0,zk,DS,_,_⟩:=h.at_
 have lc:=aQ d0
 refine W.bA rfl rfl rfl ?_
 simp -implicitDefEqProofs only[PQ,op,ef,cl,sq,reduceIte,q5,q6,q7,q9,j1,j2,j3,j4,j5,S1,d0]
 refine ae _ _ _ _ _ _ _ _ (wW h cm (by omega)) ?_
 rintro u H1⟨hu,hr,hf⟩
 cases hu
 obtain⟨n,hn⟩:∃n,n=(qj cm st).1:=⟨_,rfl⟩
 obtain⟨hU,DB⟩:∃hU,hU=(qj cm st).2:=⟨_,rfl⟩
 have SE:n≤cm∧(hU=none→n=0)∧jM cm m st=stM (pT m) n hU:=by
  rw[hn,DB]
  cases st with
  | none=>exact⟨Nat.zero_le _,fun _=>rfl,rfl⟩
  | some l =>
   cases hp:pC cm l with
   | none =>
    have:qj cm (some l)=(0,none):=by simp -implicitDefEqProofs only[qj,hp]
    rw[this]
    exact⟨Nat.zero_le _,fun _=>rfl,by simp -implicitDefEqProofs only[jM,wX,hp,stM]⟩
   | some x =>
    obtain⟨v,r⟩:=x
    have:qj cm (some l)=(v,some r):=by simp -implicitDefEqProofs only[qj,hp]
    rw[this]
    exact⟨(lu hp).2,(fun h=>by cases h),by simp -implicitDefEqProofs only[jM,wX,hp,stM];cases pM (pT m) r v<;>rfl⟩
 rw[←hn]
 rw[←DB]at hr
 obtain⟨TT,DU,rV⟩:=SE
 have VA:c<H1.length:=hr.lt
 have Ru:zb (pT m) H1 c n hU 0 []:=by
  cases hU with
  | none=>exact .inr ⟨hr,fun l h=>by cases h⟩
  | some l=>exact .inl ⟨l,l,rfl,rfl,hr⟩
 simp -implicitDefEqProofs only[op,ef,cl,sq,reduceIte,q5,q6,q7,q9,j1,j2,j3,j4,j5,S1]
 refine W.dV 0 [(0,_),(2,_),(7,_),(17,_)] (fun (i:Nat) R H'=>At H' (fun H'=>∃kk xs,R 9=.sl kk (xs.map eS)∧fK H1.length H' kk∧gI kk xs∧xs.length=i∧zb (pT m) H' c n hU i xs∧a6 (fun b=>b=c) H1 H')∧R 18=.int .i64 i∧i≤n) (fun i=>n-i) 0
  (fun R H'=>At H' (fun H'=>∃kk xs,R 9=.sl kk (xs.map eS)∧gI kk xs∧zb (pT m) H' c n hU n xs∧a6 (fun b=>b=c) H1 H')) ⟨.i ⟨.nil,[],rfl,ft _ _,fun _=>rfl,rfl,Ru,a6.refl _ _⟩,rfl,Nat.zero_le _⟩ ?_ ?_
 ·rintro i R H2⟨⟨kk,xs,g9,kx,jP,zm,oH,ew⟩,g18,hi⟩
  by_cases aq:i<n
  rotate_left
  ·have gR:i=n:=by omega
   subst gR
   simp -implicitDefEqProofs only[ai,ah,op,ef,cl,sq,reduceIte,q5,q6,q7,q9,j1,j2,j3,j4,j5,S1,g9,g18,aq,cC]
   exact .i ⟨kk,xs,rfl,jP,oH,ew⟩
  have gZ:=aw (show i<9223372036854775807 by omega)
  obtain⟨iE,Xm,bN⟩:∃iE,RD H2 c iE∧∀H3,RD H3 c (cY m iE).2→zb (pT m) H3 c n hU (i+1) (xs++[(cY m iE).1])∧((cY m iE).2=none→RD H3 c none∧∀l,hU=some l→pM (pT m) l n=none):=by
   rcases oH with⟨l,r,e1,e2,e3⟩|⟨e1,e2⟩
   ·refine⟨some r,e3,fun H3 tQ=>?_⟩
    cases hp:pT m r with
    | none =>
     have es:cY m (some r)=(⟨#[]⟩,none):=by simp -implicitDefEqProofs only[cY,hp]
     have fI:∀l,hU=some l→pM (pT m) l n=none:=fun l' e'=>by
      rw[e1]at e';cases e'
      exact wI (by rw[gO e2,hp]) (show i+1≤n by omega)
     rw[es]at tQ ⊢
     exact⟨.inr ⟨tQ,fI⟩,fun _=>⟨tQ,fI⟩⟩
    | some y =>
     obtain⟨s,r'⟩:=y
     have es:cY m (some r)=(s,some r'):=by simp -implicitDefEqProofs only[cY,hp]
     rw[es]at tQ ⊢
     exact⟨.inl ⟨l,r',e1,by rw[gO e2,hp],tQ⟩,fun h=>by cases h⟩
   ·refine⟨none,e1,fun H3 tQ=>⟨.inr ⟨tQ,e2⟩,fun _=>⟨tQ,e2⟩⟩⟩
  have Ap:c<H2.length:=Xm.lt
  simp -implicitDefEqProofs only[ai,ah,op,ef,cl,sq,reduceIte,q5,q6,q7,q9,j1,j2,j3,j4,j5,S1,g9,g18,aq]
  refine ae _ _ _ _ _ _ _ _ (pc Xm m hm) ?_
  rintro u H3⟨hu,tQ,qc⟩
  cases hu
  have adT:=fK.hO kx qc (fun t ht=>by omega)
  have bD:=all_map (enc:=eS) (n:=1) (fun _=>rfl) xs
  obtain⟨k4,H4,ha,S6,DM⟩:=gC (bytes:=16) (xs.map eS) [eS (cY m iE).1] adT (Nat.le_trans ew.1 qc.1) (by simp) (ga (by simp -implicitDefEqProofs only[List.length_map,List.length_cons,List.length_nil];omega))
  have vA:fP H3 16 kk (xs.map eS) [[.str (cY m iE).1]]=some (.sl k4 ((xs++[(cY m iE).1]).map eS),H4):=by rw[List.map_append];exact ha
  have pZ:gI k4 (xs++[(cY m iE).1]):=fun e=>absurd e (pW ha (by simp))
  have hF:a6 (fun c=>∃e,kk=.own c e) H3 H4:=oP.hO DM
  have hcn:¬ ∃e,kk=.own c e:=fun ⟨e,he⟩=>by have:=fK.own kx he;omega
  have YX:RD H4 c (cY m iE).2:=by
   obtain⟨k,rest,e,h1,h2⟩:=tQ.at_
   exact⟨k,rest,e,hF.get h1 hcn,h2⟩
  have zp:a6 (fun b=>b=c) H1 H4:=(ew.trans qc fun b hb=>.inl hb).trans hF fun b ⟨e,he⟩=>.inr (fK.own kx he)
  obtain⟨qd,jn⟩:=bN H4 YX
  obtain⟨k5,afD,e5,d5,hl5,hb5,ho5,YY⟩:=YX.at_
  by_cases jh:(cY m iE).2=none
  ·obtain⟨kF,lP⟩:=jn jh
   have e5n:e5≠0:=YY jh
   have e1:(e5 != 0)=true:=by simpa using e5n
   simp -implicitDefEqProofs only[op,ef,cl,sq,reduceIte,q5,q6,q7,q9,j1,j2,j3,j4,j5,S1,g9,bD,vA,d5,e1,cC]
   exact .i ⟨k4,xs++[(cY m iE).1],rfl,pZ,.inr ⟨kF,lP⟩,zp⟩
  ·have e50:e5=0:=by
    cases hs:(cY m iE).2 with
    | none=>exact absurd hs jh
    | some l=>exact(ho5 l hs).1
   subst e50
   have e1:((0:Int) != 0)=false:=rfl
   simp -implicitDefEqProofs only[op,ef,cl,sq,reduceIte,q5,q6,q7,q9,j1,j2,j3,j4,j5,S1,g9,g18,bD,vA,d5,e1,gZ]
   exact⟨i+1,by omega,.i ⟨k4,xs++[(cY m iE).1],rfl,S6,pZ,by simp[zm],qd,zp⟩,rfl,aq⟩
 rintro R H2⟨kk,xs,g9,jP,oH,ew⟩
 have Md:=hf.trans ew fun b hb=>.inl hb
 rw[rV]
 rcases oH with⟨l,r,e1,e2,e3⟩|⟨e1,e2⟩
 ·obtain⟨k2,d2,_,_⟩:=e3.ok
  have er:stM (pT m) n hU=(xs,some r):=by rw[e1];simp -implicitDefEqProofs only[stM,e2]
  rw[er]
  simp -implicitDefEqProofs only[ai,ah,op,ef,cl,sq,reduceIte,q5,q6,q7,q9,j1,j2,j3,j4,j5,S1,g9,d2]
  exact⟨kk,jP,rfl,e3,Md⟩
 ·obtain⟨k2,fE,e5,d2,hl2,lP,YY⟩:=e1.bad
  have Xn:stM (pT m) n hU=([],none):=by
   cases hU with
   | none=>rfl
   | some l=>simp -implicitDefEqProofs only[stM,e2 l rfl]
  rw[Xn]
  have Oe:(e5 != 0)=true:=by simpa using YY
  have Ap:=aQ d2
  simp -implicitDefEqProofs only[ai,ah,op,ef,cl,sq,reduceIte,q5,q6,q7,q9,j1,j2,j3,j4,j5,S1,d2,Oe,Ap,S2]
  exact⟨.nil,fun _=>rfl,rfl,RD.YT (bQ Ap) zk DS YY,Md.set (.inl rfl) _⟩
def tu (l:List Nat):Option (Nm×List Nat):=match pT 65535 l with
 | none=>none
 | some (k,r)=>match pN 8 r with
  | none=>none
  | some (v,r')=>some ((k,v),r')
def Cc (xs:List Nm):List (ByteArray×T):=xs.foldl (fun es x=>cD es x.1 (.int .u64 x.2)) []
def AG (xs:List Nm)(k:ByteArray):Nat:=xs.foldl (fun v x=>if x.1=k then x.2 else v) 0
theorem zd (xs:List Nm)(x:Nm):Cc (xs++[x])=cD (Cc xs) x.1 (.int .u64 x.2):=by simp[Cc]
theorem IG (xs:List Nm)(x:Nm)(k:ByteArray):AG (xs++[x]) k=if x.1=k then x.2 else AG xs k:=by simp[AG]
def nx {α:Type}(p:List Nat→Option (α×List Nat)):Option (List Nat)→Option (List Nat)
 | none=>none
 | some l=>match p l with
  | none=>none
  | some (_,r)=>some r
def ze {α:Type}(p:List Nat→Option (α×List Nat))(n:Nat):Option (List Nat)→Option (List α×List Nat)
 | none=>none
 | some l=>pM p l n
theorem adU (st:Option (List Nat)):nx tu st=(b9 8 (cY 65535 st).2).2∧∀l x r,st=some l→tu l=some (x,r)→(cY 65535 st).1=x.1∧(b9 8 (cY 65535 st).2).1=x.2:=by
 cases st with
 | none=>exact⟨rfl,fun l x r h=>by cases h⟩
 | some l =>
  cases h1:pT 65535 l with
  | none =>
   have e:cY 65535 (some l)=(⟨#[]⟩,none):=by simp -implicitDefEqProofs only[cY,h1]
   have e2:tu l=none:=by simp -implicitDefEqProofs only[tu,h1]
   rw[e]
   exact⟨by simp -implicitDefEqProofs only[nx,e2];rfl,fun l' x r h h'=>by cases h;rw[e2]at h';cases h'⟩
  | some y =>
   obtain⟨k,r⟩:=y
   have e:cY 65535 (some l)=(k,some r):=by simp -implicitDefEqProofs only[cY,h1]
   rw[e]
   cases h2:pN 8 r with
   | none =>
    have e2:tu l=none:=by simp -implicitDefEqProofs only[tu,h1,h2]
    have e3:b9 8 (some r)=(0,none):=by simp -implicitDefEqProofs only[b9,h2]
    exact⟨by simp -implicitDefEqProofs only[nx,e2,e3],fun l' x r h h'=>by cases h;rw[e2]at h';cases h'⟩
   | some z =>
    obtain⟨v,r'⟩:=z
    have e2:tu l=some ((k,v),r'):=by simp -implicitDefEqProofs only[tu,h1,h2]
    have e3:b9 8 (some r)=(v,some r'):=by simp -implicitDefEqProofs only[b9,h2]
    refine⟨by simp -implicitDefEqProofs only[nx,e2,e3],fun l' x r h h'=>?_⟩
    cases h
    rw[e2]at h'
    simp -implicitDefEqProofs only[Option.some.injEq,Prod.mk.injEq]at h'
    obtain⟨rfl,rfl⟩:=h'
    exact⟨rfl,by rw[e3]⟩
def tv {α:Type}(p:List Nat→Option (α×List Nat))(st:Option (List Nat)):Option (List α×List Nat):=match st with
 | none=>none
 | some l=>match pC 2147483647 l with
  | none=>none
  | some (n,r)=>pM p r n
theorem IH {α:Type}(p:List Nat→Option (α×List Nat))(st:Option (List Nat)):∃n hU,n=(qj 2147483647 st).1∧hU=(qj 2147483647 st).2∧n≤2147483647∧(hU=none→n=0)∧tv p st=ze p n hU:=by
 cases st with
 | none=>exact⟨0,none,rfl,rfl,by decide,fun _=>rfl,rfl⟩
 | some l =>
  cases hp:pC 2147483647 l with
  | none =>
   have:qj 2147483647 (some l)=(0,none):=by simp -implicitDefEqProofs only[qj,hp]
   rw[this]
   exact⟨0,none,rfl,rfl,by decide,fun _=>rfl,by simp -implicitDefEqProofs only[tv,hp,ze]⟩
  | some x =>
   obtain⟨v,r⟩:=x
   have:qj 2147483647 (some l)=(v,some r):=by simp -implicitDefEqProofs only[qj,hp]
   rw[this]
   exact⟨v,some r,rfl,rfl,(lu hp).2,(fun h=>by cases h),by simp -implicitDefEqProofs only[tv,hp,ze]⟩
theorem zb.step {α:Type}{p:List Nat→Option (α×List Nat)}{H:af}{c n i:Nat}{hU:Option (List Nat)}{xs:List α}(h:zb p H c n hU i xs)(hi:i<n):∃iE,RD H c iE∧∀H3 II x,RD H3 c II→(∀l,iE=some l→II=nx p (some l)∧∀y r,p l=some (y,r)→x=y)→(iE=none→II=none)→zb p H3 c n hU (i+1) (xs++[x]):=by
 rcases h with⟨l,r,e1,e2,e3⟩|⟨e1,e2⟩
 ·refine⟨some r,e3,fun H3 II x tQ hs _=>?_⟩
  obtain⟨h1,h2⟩:=hs r rfl
  unfold nx at h1
  cases hp:p r with
  | none =>
   simp -implicitDefEqProofs only[hp]at h1
   subst h1
   exact .inr ⟨tQ,fun l' e'=>by
    rw[e1]at e';cases e'
    exact wI (by rw[gO e2,hp]) (show i+1≤n by omega)⟩
  | some y =>
   obtain⟨y,r'⟩:=y
   simp -implicitDefEqProofs only[hp]at h1
   have:=h2 y r' hp
   subst h1;subst this
   exact .inl ⟨l,r',e1,by rw[gO e2,hp],tQ⟩
 ·refine⟨none,e1,fun H3 II x tQ _ hn=>?_⟩
  have:=hn rfl
  subst this
  exact .inr ⟨tQ,e2⟩
theorem zb.wf {α:Type}{p:List Nat→Option (α×List Nat)}{H:af}{c n i:Nat}{hU:Option (List Nat)}{xs:List α}(h:zb p H c n hU i xs):∃iE,RD H c iE∧(iE=none→∀l,hU=some l→pM p l n=none):=by
 rcases h with⟨l,r,e1,e2,e3⟩|⟨e1,e2⟩
 ·exact⟨some r,e3,fun h=>by cases h⟩
 ·exact⟨none,e1,fun _=>e2⟩
theorem zb.end_ {α:Type}{p:List Nat→Option (α×List Nat)}{H:af}{c n:Nat}{st hU:Option (List Nat)}{xs:List α}(h:zb p H c n hU n xs)(hp:tv p st=ze p n hU):(∃r,tv p st=some (xs,r)∧RD H c (some r))∨(tv p st=none∧RD H c none):=by
 rw[hp]
 rcases h with⟨l,r,e1,e2,e3⟩|⟨e1,e2⟩
 ·exact .inl ⟨r,by rw[e1];exact e2,e3⟩
 ·refine .inr ⟨?_,e1⟩
  cases hU with
  | none=>rfl
  | some l=>exact e2 l rfl
def Rv (c:Nat)(st:Option (List Nat))(H:af):Out→af→Prop:=fun o H'=>∃kk xs mb,o=.val (.bC [.sl kk (xs.map eW),.map mb])∧H'[mb]?=some (.map (bl T.str (Cc xs)))∧H.length≤mb∧a6 (fun b=>b=c) H H'∧((∃r,tv tu st=some (xs,r)∧RD H' c (some r))∨(tv tu st=none∧RD H' c none))
set_option maxHeartbeats 1000000 in
theorem DC {H:af}{c:Nat}{st:Option (List Nat)}(h:RD H c st):W env (.call 52 [.ptr c 0]) H (Rv c st H):=by
 have lc:=h.lt
 obtain⟨H1,qF⟩:∃H1,H1=H++[B.map []]:=⟨_,rfl⟩
 have dB:Ext H H1:=⟨_,qF⟩
 have DW:=h.ext dB
 have d1:H1[H.length]?=some (.map (bl T.str (Cc []))):=by rw[qF];exact aE rfl
 have l1:H1.length=H.length+1:=by rw[qF];simp
 refine W.bA rfl rfl rfl ?_
 simp -implicitDefEqProofs only[PM,op,ef,cl,sq,reduceIte,q5,q6,q7,q9,j1,j2,j3,j4,j5,S1]
 rw[←qF]
 refine ae _ _ _ _ _ _ _ _ (wW DW 2147483647 (by decide)) ?_
 rintro u H2⟨hu,hr,hf⟩
 cases hu
 obtain⟨n,hU,hn,DB,SE,iA,hpc⟩:=IH tu st
 rw[←hn]
 rw[←DB]at hr
 have d2:=hf.get d1 (by omega)
 have Md:a6 (fun b=>b=c) H H2:=(aB dB).trans hf fun b hb=>.inl hb
 have Oy:c<H2.length:=hr.lt
 have hl2:H1.length≤H2.length:=hf.1
 have Ru:zb tu H2 c n hU 0 []:=by
  cases hU with
  | none=>exact .inr ⟨hr,fun l h=>by cases h⟩
  | some l=>exact .inl ⟨l,l,rfl,rfl,hr⟩
 simp -implicitDefEqProofs only[op,ef,cl,sq,reduceIte,q5,q6,q7,q9,j1,j2,j3,j4,j5,S1]
 refine W.dV 0 [(0,_),(5,_)] (fun (i:Nat) R H'=>At H' (fun H'=>∃kk xs,R 4=.sl kk (xs.map eW)∧fK H2.length H' kk∧xs.length=i∧H'[H.length]?=some (.map (bl T.str (Cc xs)))∧zb tu H' c n hU i xs∧a6 (fun b=>b=c) H H'∧H2.length≤H'.length)∧R 6=.int .i64 ((n-i:Nat):Int)∧i≤n) (fun i=>n-i) 0
  (fun R H'=>At H' (fun H'=>∃kk xs,R 4=.sl kk (xs.map eW)∧H'[H.length]?=some (.map (bl T.str (Cc xs)))∧zb tu H' c n hU n xs∧a6 (fun b=>b=c) H H')) ⟨.i ⟨.nil,[],rfl,ft _ _,rfl,d2,Ru,Md,Nat.le_refl _⟩,rfl,Nat.zero_le _⟩ ?_ ?_
 ·rintro i R H3⟨⟨kk,xs,g4,kx,zm,d3,oH,qc,hl3⟩,g6,hi⟩
  by_cases aq:i<n
  rotate_left
  ·have gR:i=n:=by omega
   subst gR
   have e:decide (((i-i:Nat):Int)>0)=false:=by simp
   simp -implicitDefEqProofs only[ai,ah,op,ef,cl,sq,reduceIte,q5,q6,q7,q9,j1,j2,j3,j4,j5,S1,g4,g6,e,cC]
   exact .i ⟨kk,xs,rfl,d3,oH,qc⟩
  obtain⟨Rw,IJ,jh⟩:=oH.wf
  have e:decide (((n-i:Nat):Int)>0)=true:=by simp;omega
  simp -implicitDefEqProofs only[ai,ah,op,ef,cl,sq,reduceIte,q5,q6,q7,q9,j1,j2,j3,j4,j5,S1,g4,g6,e]
  refine ae _ _ _ _ _ _ _ _ (NN IJ) ?_
  rintro u H3'⟨rfl,er,hu,NO⟩
  cases hu
  by_cases hw:Rw=none
  ·have IK:¬er=0:=fun h0=>(NO.1 h0) hw
   have e1:(er==0)=false:=by simpa using IK
   simp -implicitDefEqProofs only[op,ef,cl,sq,reduceIte,q5,q6,q7,q9,j1,j2,j3,j4,j5,S1,e1,g4,cC]
   refine .i ⟨kk,xs,rfl,d3,.inr ⟨by rw[←hw];exact IJ,jh hw⟩,qc⟩
  have IK:er=0:=NO.2 hw
  subst IK
  obtain⟨iE,tR,bN⟩:=oH.step aq
  have Ap:c<H3'.length:=tR.lt
  have e1:((0:Int)==0)=true:=rfl
  simp -implicitDefEqProofs only[op,ef,cl,sq,reduceIte,q5,q6,q7,q9,j1,j2,j3,j4,j5,S1,e1]
  refine ae _ _ _ _ _ _ _ _ (pc tR 65535 (by decide)) ?_
  rintro u H4⟨hu,YX,zp⟩
  cases hu
  simp -implicitDefEqProofs only[op,ef,cl,sq,reduceIte,q5,q6,q7,q9,j1,j2,j3,j4,j5,S1]
  refine ae _ _ _ _ _ _ _ _ (Rq YX) ?_
  rintro u H5⟨hu,hr5,Wi⟩
  cases hu
  obtain⟨s1,s2⟩:=adU iE
  obtain⟨x,hx⟩:∃x:Nm,x=((cY 65535 iE).1,(b9 8 (cY 65535 iE).2).1):=⟨_,rfl⟩
  have x1:(cY 65535 iE).1=x.1:=by rw[hx]
  have x2:(b9 8 (cY 65535 iE).2).1=x.2:=by rw[hx]
  rw[x1,x2]
  have Xo:=zp.trans Wi fun b hb=>.inl hb
  obtain⟨H6,LP⟩:∃H6,H6=H5++[B.cells (eW x)]:=⟨_,rfl⟩
  have jQ:Ext H5 H6:=⟨_,LP⟩
  have d6:H6[H5.length]?=some (.cells (eW x)):=by rw[LP];exact aE rfl
  have IL:a6 (fun b=>b=c) H3' H6:=Xo.ext jQ
  have Me:=fK.hO kx IL (fun t ht=>by omega)
  have l5:H3'.length≤H5.length:=Xo.1
  have m6:=IL.get d3 (by omega)
  have bD:=all_map (enc:=eW) (n:=2) (fun _=>rfl) xs
  obtain⟨k7,H7,ha,S7,LH⟩:=gC (bytes:=24) (xs.map eW) [eW x] Me (Nat.le_trans hl3 IL.1) (by simp) (ga (by simp -implicitDefEqProofs only[List.length_map,List.length_cons,List.length_nil];omega))
  have vA:fP H6 24 kk (xs.map eW) [[.str x.1,.int .u64 x.2]]=some (.sl k7 ((xs++[x]).map eW),H7):=by rw[List.map_append];exact ha
  have m7:=LH.cells Me m6 (by simp)
  have d7:=LH.cells Me d6 (by simp)
  have l7:=aQ m7
  obtain⟨H8,zr⟩:∃H8,H8=H7.set H.length (.map (bl T.str (Cc (xs++[x])))):=⟨_,rfl⟩
  have Xp:=zr
  rw[zd]at Xp
  have hF7:a6 (fun b=>b=c) H H7:=(qc.trans IL fun b hb=>.inl hb).trans (oP.hO LH) fun b ⟨e,he⟩=>.inr (by have:=fK.own kx he;omega)
  have hF8:a6 (fun b=>b=c) H H8:=by rw[zr];exact hF7.set (.inr (Nat.le_refl _)) _
  have r8:RD H8 c (b9 8 (cY 65535 iE).2).2:=by
   obtain⟨k,rest,e,h1,h2⟩:=(hr5.ext jQ).at_
   have h3:=LH.cells Me h1 (by simp)
   exact⟨k,rest,e,by rw[zr,bm (by omega)];exact h3,h2⟩
  have Rx:fK H2.length H8 k7:=by rw[zr];exact S7.set m7 (by simp) _
  have pm8:=bN H8 (b9 8 (cY 65535 iE).2).2 x r8 (fun l hl=>⟨by rw[←s1,hl],fun y r hy=>by
   obtain⟨y1,y2⟩:=s2 l y r hl hy
   rw[hx,y1,y2]⟩) (fun hl=>by rw[hl];rfl)
  have wd:IntKind.i64.wrap (((n-i:Nat):Int)-1)=((n-(i+1):Nat):Int):=by rw[wrap64 (by omega)];omega
  simp -implicitDefEqProofs only[eW]at LP d6 d7
  simp -implicitDefEqProofs only[op,ef,cl,sq,reduceIte,q5,q6,q7,q9,j1,j2,j3,j4,j5,S1,S2]
  rw[←LP]
  simp -implicitDefEqProofs only[op,ef,cl,sq,reduceIte,q5,q6,q7,q9,j1,j2,j3,j4,j5,S1,g4,g6,d6,d7,bD,vA,m7,l7,wd]
  rw[←Xp]
  exact⟨i+1,by omega,.i ⟨k7,xs++[x],rfl,Rx,by simp[zm],by rw[zr];exact bQ l7,pm8,hF8,by rw[zr,List.length_set];have:=LH.len;have:=IL.1;omega⟩,rfl,aq⟩
 rintro R H3⟨kk,xs,g4,d3,oH,qc⟩
 simp -implicitDefEqProofs only[ai,ah,op,ef,cl,sq,reduceIte,q5,q6,q7,q9,j1,j2,j3,j4,j5,S1,g4]
 exact⟨kk,xs,H.length,rfl,d3,Nat.le_refl _,qc,oH.end_ hpc⟩
def qL (l:List Nat):Option (Kd×List Nat):=match pT 65535 l with
 | none=>none
 | some (k,r1)=>match pN 8 r1 with
  | none=>none
  | some (v,r2)=>match pT 65535 r2 with
   | none=>none
   | some (w,r3)=>match wX 1024 65535 r3 with
    | none=>none
    | some (ks,r4)=>some (⟨k,v,w,.arg,ks,-1⟩,r4)
def YZ (st:Option (List Nat)):=cY 65535 st
def Y0 (st:Option (List Nat)):=b9 8 (YZ st).2
def Xq (st:Option (List Nat)):=cY 65535 (Y0 st).2
def Mf (st:Option (List Nat)):=jM 1024 65535 (Xq st).2
theorem Xr (st:Option (List Nat)):nx qL st=(Mf st).2∧(st=none→(Mf st).2=none)∧∀l x r,st=some l→qL l=some (x,r)→(YZ st).1=x.key∧(Y0 st).1=x.id∧(Xq st).1=x.value∧(Mf st).1=x.keys∧x.kk=.arg∧x.a9=-1:=by
 have n1:b9 8 none=(0,none):=rfl
 have n2:cY 65535 none=(⟨#[]⟩,none):=rfl
 have n3:jM 1024 65535 none=([],none):=rfl
 cases st with
 | none=>exact⟨rfl,fun _=>rfl,fun l x r h=>by cases h⟩
 | some l =>
  unfold Mf Xq Y0 YZ
  cases h1:pT 65535 l with
  | none =>
   have e:cY 65535 (some l)=(⟨#[]⟩,none):=by simp -implicitDefEqProofs only[cY,h1]
   have e2:qL l=none:=by simp -implicitDefEqProofs only[qL,h1]
   rw[e]
   exact⟨by simp -implicitDefEqProofs only[nx,e2,n1,n2,n3],(fun h=>by cases h),fun l' x r h h'=>by cases h;rw[e2]at h';cases h'⟩
  | some y =>
   obtain⟨k,r1⟩:=y
   have e:cY 65535 (some l)=(k,some r1):=by simp -implicitDefEqProofs only[cY,h1]
   rw[e]
   cases h2:pN 8 r1 with
   | none =>
    have e2:qL l=none:=by simp -implicitDefEqProofs only[qL,h1,h2]
    have e3:b9 8 (some r1)=(0,none):=by simp -implicitDefEqProofs only[b9,h2]
    exact⟨by simp -implicitDefEqProofs only[nx,e2,e3,n1,n2,n3],(fun h=>by cases h),fun l' x r h h'=>by cases h;rw[e2]at h';cases h'⟩
   | some z =>
    obtain⟨v,r2⟩:=z
    have e3:b9 8 (some r1)=(v,some r2):=by simp -implicitDefEqProofs only[b9,h2]
    simp -implicitDefEqProofs only[e3]
    cases h3:pT 65535 r2 with
    | none =>
     have e2:qL l=none:=by simp -implicitDefEqProofs only[qL,h1,h2,h3]
     have e4:cY 65535 (some r2)=(⟨#[]⟩,none):=by simp -implicitDefEqProofs only[cY,h3]
     exact⟨by simp -implicitDefEqProofs only[nx,e2,e4,n3],(fun h=>by cases h),fun l' x r h h'=>by cases h;rw[e2]at h';cases h'⟩
    | some w =>
     obtain⟨w,r3⟩:=w
     have e4:cY 65535 (some r2)=(w,some r3):=by simp -implicitDefEqProofs only[cY,h3]
     simp -implicitDefEqProofs only[e4]
     cases h4:wX 1024 65535 r3 with
     | none =>
      have e2:qL l=none:=by simp -implicitDefEqProofs only[qL,h1,h2,h3,h4]
      have e5:jM 1024 65535 (some r3)=([],none):=by simp -implicitDefEqProofs only[jM,h4]
      exact⟨by simp -implicitDefEqProofs only[nx,e2,e5],(fun h=>by cases h),fun l' x r h h'=>by cases h;rw[e2]at h';cases h'⟩
     | some q =>
      obtain⟨ks,r4⟩:=q
      have e2:qL l=some (⟨k,v,w,.arg,ks,-1⟩,r4):=by simp -implicitDefEqProofs only[qL,h1,h2,h3,h4]
      have e5:jM 1024 65535 (some r3)=(ks,some r4):=by simp -implicitDefEqProofs only[jM,h4]
      refine⟨by simp -implicitDefEqProofs only[nx,e2,e5],(fun h=>by cases h),fun l' x r h h'=>?_⟩
      cases h
      rw[e2]at h'
      simp -implicitDefEqProofs only[Option.some.injEq,Prod.mk.injEq]at h'
      obtain⟨rfl,rfl⟩:=h'
      simp -implicitDefEqProofs only[e5]
      exact⟨trivial,trivial,trivial,trivial,trivial,trivial⟩
def nq (now:Int)(L:List Nm)(x:Kd):Kd:={ x with a9:=if x.id<AG L x.key then now else -1 }
def pH (l:List Nat):Option (Nat×List Nat):=match pN 4 l with
 | none=>none
 | some (f,r1)=>match pN 1 r1 with
  | none=>none
  | some (k,r2)=>match pN 8 r2 with
   | none=>none
   | some (g,r3)=>if f=1918987632∧k=1∧1≤g∧g≤9223372036854775807 then some (g,r3)else none
def pR (l:List Nat):Option (Nat×List Nm×List Kd):=match pH l with
 | none=>none
 | some (g,r3)=>match tv tu (some r3)with
  | none=>none
  | some (L,r4)=>match tv qL (some r4)with
   | none=>none
   | some (K,r5)=>if r5=[]then some (g,L,K)else none
theorem stH (l:List Nat):if (b9 4 (some l)).1=1918987632∧(b9 1 (b9 4 (some l)).2).1=1∧1≤(b9 8 (b9 1 (b9 4 (some l)).2).2).1∧(b9 8 (b9 1 (b9 4 (some l)).2).2).1≤9223372036854775807 then ∃r,pH l=some ((b9 8 (b9 1 (b9 4 (some l)).2).2).1,r)∧(b9 8 (b9 1 (b9 4 (some l)).2).2).2=some r else pH l=none:=by
 have n1:b9 8 none=(0,none):=rfl
 have n2:b9 1 none=(0,none):=rfl
 cases h1:pN 4 l with
 | none =>
  have e:b9 4 (some l)=(0,none):=by simp -implicitDefEqProofs only[b9,h1]
  rw[e,if_neg (fun h=>by have:=h.1;cases this)]
  simp -implicitDefEqProofs only[pH,h1]
 | some x =>
  obtain⟨f,r1⟩:=x
  have e:b9 4 (some l)=(f,some r1):=by simp -implicitDefEqProofs only[b9,h1]
  rw[e]
  simp only
  cases h2:pN 1 r1 with
  | none =>
   have e2:b9 1 (some r1)=(0,none):=by simp -implicitDefEqProofs only[b9,h2]
   rw[e2,if_neg (fun h=>by have:=h.2.1;cases this)]
   simp -implicitDefEqProofs only[pH,h1,h2]
  | some y =>
   obtain⟨k,r2⟩:=y
   have e2:b9 1 (some r1)=(k,some r2):=by simp -implicitDefEqProofs only[b9,h2]
   rw[e2]
   simp only
   cases h3:pN 8 r2 with
   | none =>
    have e3:b9 8 (some r2)=(0,none):=by simp -implicitDefEqProofs only[b9,h3]
    rw[e3,if_neg (fun h=>by have:=h.2.2.1;simp at this)]
    simp -implicitDefEqProofs only[pH,h1,h2,h3]
   | some z =>
    obtain⟨g,r3⟩:=z
    have e3:b9 8 (some r2)=(g,some r3):=by simp -implicitDefEqProofs only[b9,h3]
    rw[e3]
    simp only
    by_cases hc:f=1918987632∧k=1∧1≤g∧g≤9223372036854775807
    ·rw[if_pos hc]
     exact⟨r3,by simp -implicitDefEqProofs only[pH,h1,h2,h3];rw[if_pos hc],rfl⟩
    ·rw[if_neg hc]
     simp -implicitDefEqProofs only[pH,h1,h2,h3];rw[if_neg hc]
theorem Cd (xs:List Nm)(k:ByteArray):(aj (Cc xs) k=none∧AG xs k=0)∨aj (Cc xs) k=some (.int .u64 (AG xs k)):=by
 have h:∀n,n≤xs.length→(aj (Cc (xs.take n)) k=none∧AG (xs.take n) k=0)∨aj (Cc (xs.take n)) k=some (.int .u64 (AG (xs.take n) k)):=by
  intro n
  induction n with
  | zero=>exact fun _=>.inl ⟨rfl,rfl⟩
  | succ n ih =>
   intro hn
   obtain⟨x,hx⟩:=bM (l:=xs) (i:=n) (by omega)
   rw[fe hx,zd,IG,bq]
   by_cases e:k=x.1
   ·rw[if_pos e,if_pos e.symm];exact .inr rfl
   ·rw[if_neg e,if_neg (fun h=>e h.symm)];exact ih (by omega)
 have:=h xs.length (Nat.le_refl _)
 rwa[List.take_length]at this
theorem Ry {l r:List Nat}{x:Kd}(h:qL l=some (x,r)):x.kk=.arg∧x.keys.length≤1024:=by
 have hs:=(Xr (some l)).2.2 l x r rfl h
 refine⟨hs.2.2.2.2.1,?_⟩
 rw[←hs.2.2.2.1]
 unfold Mf
 generalize (Xq (some l)).2=st
 cases st with
 | none=>exact Nat.zero_le _
 | some r3 =>
  unfold jM
  simp only
  cases h4:wX 1024 65535 r3 with
  | none=>exact Nat.zero_le _
  | some q =>
   obtain⟨ks,r4⟩:=q
   simp only
   unfold wX at h4
   cases h5:pC 1024 r3 with
   | none=>rw[h5]at h4;cases h4
   | some y =>
    obtain⟨n,r5⟩:=y
    rw[h5]at h4
    rw[qh h4]
    exact(lu h5).2
theorem Rz {α:Type}{p:List Nat→Option (α×List Nat)}{Q:α→Prop}(hQ:∀l x r,p l=some (x,r)→Q x){l r:List Nat}:∀{n:Nat} {xs:List α},pM p l n=some (xs,r)→∀x∈xs,Q x
 | n,xs,h=>by
  induction n generalizing xs r with
  | zero=>simp -implicitDefEqProofs only[pM,Option.some.injEq,Prod.mk.injEq]at h;rw[←h.1];intro x hx;cases hx
  | succ n ih =>
   cases h1:pM p l n with
   | none=>simp -implicitDefEqProofs only[pM,h1]at h;cases h
   | some y =>
    obtain⟨ys,r1⟩:=y
    rw[gO h1]at h
    cases h2:p r1 with
    | none=>rw[h2]at h;cases h
    | some z =>
     obtain⟨z,r2⟩:=z
     rw[h2]at h
     simp -implicitDefEqProofs only[Option.some.injEq,Prod.mk.injEq]at h
     rw[←h.1]
     intro x hx
     rcases List.mem_append.1 hx with hx|hx
     ·exact ih _ h1 x hx
     ·simp at hx;subst hx;exact hQ _ _ _ h2
theorem Mg {α:Type}{p:List Nat→Option (α×List Nat)}{Q:α→Prop}(hQ:∀l x r,p l=some (x,r)→Q x){st:Option (List Nat)}{xs:List α}{r:List Nat}(h:tv p st=some (xs,r)):∀x∈xs,Q x:=by
 unfold tv at h
 cases st with
 | none=>cases h
 | some l =>
  simp only at h
  cases h1:pC 2147483647 l with
  | none=>rw[h1]at h;cases h
  | some y =>
   obtain⟨n,r1⟩:=y
   rw[h1]at h
   exact Rz hQ h
def eZ (l:List Nat):Prop:=4≤l.length∧cd 4 (dF (l.take (l.length-4)))=l.drop (l.length-4)
def NP (l : List Nat)(now : Int)(H : af) : Out → af → Prop := fun o H' =>
  (¬a7 now ∧ o = .val (.bC [.int .i64 0, .br, .int .i64 1]) ∧ Ext H H') ∨
  (a7 now ∧ ¬eZ l ∧ o = .val (.bC [.int .i64 0, .br, .int .i64 90]) ∧ Ext H H') ∨
  (a7 now ∧ eZ l ∧ pR (l.take (l.length - 4)) = none ∧ o = .val (.bC [.int .i64 0, .br, .int .i64 2]) ∧ Ext H H') ∨
  (a7 now ∧ eZ l ∧ ∃g L K, pR (l.take (l.length - 4)) = some (g, L, K) ∧
    ((cg (K.map (nq now L)) L ∧ ∃b F, o = .val (.bC [.int .i64 g, .ptr b.s 0, .int .i64 0]) ∧ nD H H' b (cH (K.map (nq now L)) L) F K.length) ∨
     (¬cg (K.map (nq now L)) L ∧ o = .val (.bC [.int .i64 0, .br, .int .i64 2]) ∧ Ext H H')))
theorem lE {H0 H H':af}{c:Nat}(hx:Ext H0 H)(hf:a6 (fun b=>b=c) H H')(hc:H0.length≤c):Ext H0 H' :=
 dn ((aB (F:=fun _=>False) hx).trans hf fun b hb=>.inr (by omega))
theorem Ce {l m:List Nat}(hl:cT l)(hm:cT m):ue l=ue m↔l=m:=⟨fun h=>by rw[←Ii hl,←Ii hm,h],fun h=>by rw[h]⟩
set_option maxHeartbeats 8000000 in
theorem AH (k:SK)(l:List Nat)(hk:gI k l)(hb:cT l)(hl:l.length≤4294967296)(now:Int)(Jy:eZ l→∀g L K,pR (l.take (l.length-4))=some (g,L,K)→K.length≤8000000∧L.length≤8000000)(H:af) :
  W env (.call 17 [.sl k (l.map eB),.int .i64 now]) H (NP l now H):=by
 refine W.bA rfl rfl rfl ?_
 by_cases ht:¬a7 now
 ·have hd:now<0∨(¬now<0∧now>1099511627776):=by unfold a7 at ht;omega
  rcases hd with h1|⟨h1,h2⟩
  ·simp -implicitDefEqProofs only[C4,op,ef,cl,sq,reduceIte,q5,q6,q7,q9,j1,j2,j3,j4,j5,S1,h1]
   exact .inl ⟨ht,rfl,Ext.rfl'⟩
  ·simp -implicitDefEqProofs only[C4,op,ef,cl,sq,reduceIte,q5,q6,q7,q9,j1,j2,j3,j4,j5,S1,h1,h2]
   exact .inl ⟨ht,rfl,Ext.rfl'⟩
 have ht:a7 now:=Classical.not_not.1 ht
 have t1:¬now<0:=by unfold a7 at ht;omega
 have t2:¬now>1099511627776:=by unfold a7 at ht;omega
 by_cases hlen:l.length<4
 ·have w4:IntKind.i64.wrap ((l.length:Int)-4)=(l.length:Int)-4:=wrap64 (by omega)
  have e:decide ((l.length:Int)-4<0)=true:=by simp;omega
  simp -implicitDefEqProofs only[C4,op,ef,cl,sq,reduceIte,q5,q6,q7,q9,j1,j2,j3,j4,j5,S1,t1,t2,List.length_map,w4,e]
  exact .inr (.inl ⟨ht,fun h=>by have:=h.1;omega,rfl,Ext.rfl'⟩)
 obtain⟨n,hn⟩:∃n,n=l.length-4:=⟨_,rfl⟩
 have w4:IntKind.i64.wrap ((l.length:Int)-4)=(n:Int):=by rw[wrap64 (by omega)];omega
 have e:¬((n:Int)<0):=by omega
 have cW:=mF (k:=k) (l:=l) (n:=n) (by omega)
 have YW:=pb (k:=k) (l:=l) (n:=n) (by omega)
 have rJ:=Dz (k:=k.cut l.length n l.length) (l:=l.drop n)
 have C1:cT (l.take n):=hb.take n
 simp -implicitDefEqProofs only[C4,op,ef,cl,sq,reduceIte,q5,q6,q7,q9,j1,j2,j3,j4,j5,S1,t1,t2,List.length_map,w4,e,↓cW,↓YW,↓rJ]
 refine ae _ _ _ _ _ _ _ _ (Ix _ (l.take n) C1 (by rw[List.length_take];omega) _) ?_
 rintro u H1⟨dB,hu⟩
 cases hu
 have dB:Ext H H1:=dB
 have RA:=Dz (k:=.full) (l:=cd 4 (dF (l.take n)))
 have YM:=sU (l.drop n)
 have DS:=oa (l.drop n)
 have tj:(⟨((l.drop n).map UInt8.ofNat).toArray⟩:ByteArray)=ue (l.drop n):=rfl
 by_cases zt:eZ l
 rotate_left
 ·have bF:¬ue (cd 4 (dF (l.take n)))=ue (l.drop n):=fun h=>zt ⟨by omega,by rw[←hn];exact(Ce (fc _ _) (hb.drop n)).1 h⟩
  simp -implicitDefEqProofs only[op,ef,cl,sq,reduceIte,q5,q6,q7,q9,j1,j2,j3,j4,j5,S1,↓RA,bF,YM,DS,tj]
  exact .inr (.inl ⟨ht,zt,rfl,dB⟩)
 have heq:ue (cd 4 (dF (l.take n)))=ue (l.drop n):=by have:=zt.2;rw[←hn]at this;rw[this]
 obtain⟨bd,JC⟩:∃bd,bd=l.take n:=⟨_,rfl⟩
 have hq:l.take (l.length-4)=bd:=by rw[←hn,JC]
 rw[hq]at Jy
 have kH:bd.length≤4294967296:=by rw[JC,List.length_take];omega
 rw[←JC]at cW C1 RA
 have kZ:gI (k.cut l.length 0 n) bd:=fun e=>by
  have:k=.nil:=by
   cases k<;>simp -implicitDefEqProofs only[SK.cut]at e
   ·rfl
   ·cases e
   ·split at e<;>cases e
   ·split at e<;>cases e
  rw[JC,hk this];simp
 rw[←JC]at heq ⊢
 simp -implicitDefEqProofs only[op,ef,cl,sq,reduceIte,q5,q6,q7,q9,j1,j2,j3,j4,j5,S1,↓RA,heq,↓cW,YM,DS,tj]
 refine ae _ _ _ _ _ _ _ _ (Rt _ bd kZ kH C1 _) ?_
 rintro u H2⟨jc,c,mM,hu,r2⟩
 cases hu
 have jc:Ext H H2:=dB.trans jc
 have hc:H.length≤c:=Nat.le_trans dB.len mM
 simp -implicitDefEqProofs only[op,ef,cl,sq,reduceIte,q5,q6,q7,q9,j1,j2,j3,j4,j5,S1]
 refine ae _ _ _ _ _ _ _ _ (adQ r2) ?_
 rintro u H3⟨hu,r3,f3⟩
 cases hu
 have lC:=lE jc f3 hc
 simp -implicitDefEqProofs only[op,ef,cl,sq,reduceIte,q5,q6,q7,q9,j1,j2,j3,j4,j5,S1]
 refine ae _ _ _ _ _ _ _ _ (adR r3) ?_
 rintro u H4⟨hu,r4,f4⟩
 cases hu
 have jn:=lE lC f4 hc
 simp -implicitDefEqProofs only[op,ef,cl,sq,reduceIte,q5,q6,q7,q9,j1,j2,j3,j4,j5,S1]
 refine ae _ _ _ _ _ _ _ _ (Rq r4) ?_
 rintro u H5⟨hu,r5,f5⟩
 cases hu
 have fM:=lE jn f5 hc
 have hH:=stH bd
 generalize (b9 8 (b9 1 (b9 4 (some bd)).2).2)=q8 at *
 generalize (b9 1 (b9 4 (some bd)).2).1=q1 at *
 generalize (b9 4 (some bd)).1=q4 at *
 have bad:∀{H':af},Ext H H'→pR bd=none→NP l now H (.val (.bC [.int .i64 0,.br,.int .i64 2])) H':=fun hx hp=>.inr (.inr (.inl ⟨ht,zt,by rw[hq];exact hp,rfl,hx⟩))
 by_cases c1:q4=1918987632
 rotate_left
 ·have d1:((q4:Int) != 1918987632)=true:=by simp;omega
  rw[if_neg (fun h=>c1 h.1)]at hH
  simp -implicitDefEqProofs only[op,ef,cl,sq,reduceIte,q5,q6,q7,q9,j1,j2,j3,j4,j5,S1,d1]
  exact bad fM (by simp -implicitDefEqProofs only[pR,hH])
 by_cases c2:q1=1
 rotate_left
 ·have d1:((q4:Int) != 1918987632)=false:=by simp;omega
  have d2:((q1:Int) != 1)=true:=by simp;omega
  rw[if_neg (fun h=>c2 h.2.1)]at hH
  simp -implicitDefEqProofs only[op,ef,cl,sq,reduceIte,q5,q6,q7,q9,j1,j2,j3,j4,j5,S1,d1,d2]
  exact bad fM (by simp -implicitDefEqProofs only[pR,hH])
 have d1:((q4:Int) != 1918987632)=false:=by simp;omega
 have d2:((q1:Int) != 1)=false:=by simp;omega
 by_cases c3:1≤q8.1
 rotate_left
 ·have d3:decide ((q8.1:Int)<1)=true:=by simp;omega
  rw[if_neg (fun h=>c3 h.2.2.1)]at hH
  simp -implicitDefEqProofs only[op,ef,cl,sq,reduceIte,q5,q6,q7,q9,j1,j2,j3,j4,j5,S1,d1,d2,d3]
  exact bad fM (by simp -implicitDefEqProofs only[pR,hH])
 have d3:decide ((q8.1:Int)<1)=false:=by simp;omega
 by_cases c4:q8.1≤9223372036854775807
 rotate_left
 ·have d4:decide ((q8.1:Int)>9223372036854775807)=true:=by simp;omega
  rw[if_neg (fun h=>c4 h.2.2.2)]at hH
  simp -implicitDefEqProofs only[op,ef,cl,sq,reduceIte,q5,q6,q7,q9,j1,j2,j3,j4,j5,S1,d1,d2,d3,d4]
  exact bad fM (by simp -implicitDefEqProofs only[pR,hH])
 have d4:decide ((q8.1:Int)>9223372036854775807)=false:=by simp;omega
 rw[if_pos ⟨c1,c2,c3,c4⟩]at hH
 obtain⟨rr,hH,hq8⟩:=hH
 rw[hq8]at r5
 simp -implicitDefEqProofs only[op,ef,cl,sq,reduceIte,q5,q6,q7,q9,j1,j2,j3,j4,j5,S1,d1,d2,d3,d4]
 refine ae _ _ _ _ _ _ _ _ (DC r5) ?_
 rintro u H6⟨kL,L,mb,hu,dm,Ju,f6,hP⟩
 cases hu
 have jQ:=lE fM f6 hc
 have Ol:mb≠c:=by have:=r5.lt;omega
 obtain⟨tw,r6,Xs⟩:∃tw,RD H6 c tw∧((∃r,tw=some r∧tv tu (some rr)=some (L,r))∨(tw=none∧tv tu (some rr)=none)):=by
  rcases hP with⟨r,h1,h2⟩|⟨h1,h2⟩
  ·exact⟨some r,h2,.inl ⟨r,rfl,h1⟩⟩
  ·exact⟨none,h2,.inr ⟨rfl,h1⟩⟩
 simp -implicitDefEqProofs only[op,ef,cl,sq,reduceIte,q5,q6,q7,q9,j1,j2,j3,j4,j5,S1]
 refine ae _ _ _ _ _ _ _ _ (wW r6 2147483647 (by decide)) ?_
 rintro u H7⟨hu,r7,f7⟩
 cases hu
 have nn:=lE jQ f7 hc
 obtain⟨m,hU,hm,DB,aiZ,tj,hpc⟩:=IH qL tw
 rw[←hm]
 rw[←DB]at r7
 have dm7:=f7.get dm Ol
 have lc7:c<H7.length:=r7.lt
 have Ru:zb qL H7 c m hU 0 []:=by
  cases hU with
  | none=>exact .inr ⟨r7,fun l h=>by cases h⟩
  | some l=>exact .inl ⟨l,l,rfl,rfl,r7⟩
 simp -implicitDefEqProofs only[op,ef,cl,sq,reduceIte,q5,q6,q7,q9,j1,j2,j3,j4,j5,S1]
 refine W.dV 0 [(1,_),(8,_),(11,_),(12,_),(13,_)] (fun (i:Nat) R H'=>At H' (fun H'=>∃kk xs,R 14=.sl kk ((xs.map (nq now L)).map cP)∧fK H7.length H' kk∧xs.length=i∧H'[mb]?=some (.map (bl T.str (Cc L)))∧zb qL H' c m hU i xs∧a6 (fun b=>b=c) H7 H')∧R 15=.int .i64 ((m-i:Nat):Int)∧i≤m) (fun i=>m-i) 0
  (fun R H'=>At H' (fun H'=>∃kk xs,R 14=.sl kk ((xs.map (nq now L)).map cP)∧zb qL H' c m hU m xs∧a6 (fun b=>b=c) H7 H')) ⟨.i ⟨.nil,[],rfl,ft _ _,rfl,dm7,Ru,a6.refl _ _⟩,rfl,Nat.zero_le _⟩ ?_ ?_
 ·rintro i R H8⟨⟨kk,xs,xo,kx,zm,d8,oH,yL⟩,Xt,hi⟩
  by_cases aq:i<m
  rotate_left
  ·have gR:i=m:=by omega
   subst gR
   have e:decide (((i-i:Nat):Int)>0)=false:=by simp
   simp -implicitDefEqProofs only[ai,ah,op,ef,cl,sq,reduceIte,q5,q6,q7,q9,j1,j2,j3,j4,j5,S1,xo,Xt,e,cC]
   exact .i ⟨kk,xs,rfl,oH,yL⟩
  obtain⟨Rw,IJ,jh⟩:=oH.wf
  have e:decide (((m-i:Nat):Int)>0)=true:=by simp;omega
  simp -implicitDefEqProofs only[ai,ah,op,ef,cl,sq,reduceIte,q5,q6,q7,q9,j1,j2,j3,j4,j5,S1,xo,Xt,e]
  refine ae _ _ _ _ _ _ _ _ (NN IJ) ?_
  rintro u H8'⟨rfl,er,hu,NO⟩
  cases hu
  by_cases hw:Rw=none
  ·have IK:¬er=0:=fun h0=>(NO.1 h0) hw
   have e1:(er==0)=false:=by simpa using IK
   simp -implicitDefEqProofs only[op,ef,cl,sq,reduceIte,q5,q6,q7,q9,j1,j2,j3,j4,j5,S1,e1,xo,cC]
   refine .i ⟨kk,xs,rfl,.inr ⟨by rw[←hw];exact IJ,jh hw⟩,yL⟩
  have IK:er=0:=NO.2 hw
  subst IK
  obtain⟨iE,tR,bN⟩:=oH.step aq
  have Ap:c<H8'.length:=tR.lt
  have e1:((0:Int)==0)=true:=rfl
  obtain⟨s1,s0,s2⟩:=Xr iE
  simp -implicitDefEqProofs only[op,ef,cl,sq,reduceIte,q5,q6,q7,q9,j1,j2,j3,j4,j5,S1,e1]
  refine ae _ _ _ _ _ _ _ _ (pc tR 65535 (by decide)) ?_
  rintro u H9⟨hu,r9,f9⟩
  cases hu
  simp -implicitDefEqProofs only[op,ef,cl,sq,reduceIte,q5,q6,q7,q9,j1,j2,j3,j4,j5,S1]
  refine ae _ _ _ _ _ _ _ _ (Rq r9) ?_
  rintro u pq⟨hu,r10,f10⟩
  cases hu
  simp -implicitDefEqProofs only[op,ef,cl,sq,reduceIte,q5,q6,q7,q9,j1,j2,j3,j4,j5,S1]
  refine ae _ _ _ _ _ _ _ _ (pc r10 65535 (by decide)) ?_
  rintro u xp⟨hu,QO,f11⟩
  cases hu
  simp -implicitDefEqProofs only[op,ef,cl,sq,reduceIte,q5,q6,q7,q9,j1,j2,j3,j4,j5,S1]
  refine ae _ _ _ _ _ _ _ _ (DA QO 1024 65535 (by decide) (by decide)) ?_
  rintro u y8⟨S8,Xe,hu,QP,f12⟩
  cases hu
  have QP:RD y8 c (Mf iE).2:=QP
  obtain⟨y,hy⟩:∃y:Kd,y=⟨(YZ iE).1,(Y0 iE).1,(Xq iE).1,.arg,(Mf iE).1,-1⟩:=⟨_,rfl⟩
  have y1:(cY 65535 iE).1=y.key:=by rw[hy];rfl
  have y2:(b9 8 (cY 65535 iE).2).1=y.id:=by rw[hy];rfl
  have y3:(cY 65535 (b9 8 (cY 65535 iE).2).2).1=y.value:=by rw[hy];rfl
  have y4:(jM 1024 65535 (cY 65535 (b9 8 (cY 65535 iE).2).2).2).1=y.keys:=by rw[hy];rfl
  rw[y1,y2,y3,y4]
  have Xu:=((f9.trans f10 fun b hb=>.inl hb).trans f11 fun b hb=>.inl hb).trans f12 fun b hb=>.inl hb
  obtain⟨cs,tH⟩:∃cs,cs=[T.str y.key,.int .u64 y.id,.str y.value,.sl S8 (y.keys.map eS)]:=⟨_,rfl⟩
  obtain⟨wT,Mh⟩:∃wT,wT=y8++[B.cells cs]:=⟨_,rfl⟩
  have lN:Ext y8 wT:=⟨_,Mh⟩
  have d13:wT[y8.length]?=some (.cells cs):=by rw[Mh];exact aE rfl
  have Mi:a6 (fun b=>b=c) H8' wT:=Xu.ext lN
  have IM:=fK.hO kx Mi (fun t ht=>by omega)
  have Y1:=Mi.get d8 Ol
  have Xv:cP (nq now L y)=[.str y.key,.int .u64 y.id,.str y.value,.sl .arg (y.keys.map eS),.int .i64 (if y.id<AG L y.key then now else -1)]:=by rw[hy];rfl
  have bD:=all_map (enc:=cP) (n:=5) (fun _=>rfl) (xs.map (nq now L))
  obtain⟨S9,zs,ha,IC,RB⟩:=gC (bytes:=72) ((xs.map (nq now L)).map cP) [cP (nq now L y)] IM (Nat.le_trans yL.1 Mi.1) (by simp) (ga (by simp -implicitDefEqProofs only[List.length_map,List.length_cons,List.length_nil];omega))
  have zz:fP wT 72 kk ((xs.map (nq now L)).map cP) [cP (nq now L y)]=some (.sl S9 (((xs++[y]).map (nq now L)).map cP),zs):=by
   rw[ha,List.map_append,List.map_append]
   have:([cP (nq now L y)].map fun c=>c.map T.erase)=[cP (nq now L y)]:=by rw[Xv];rfl
   rw[this];rfl
  rw[Xv]at zz
  have m14:=RB.cells IM Y1 (by simp)
  have RE:a6 (fun b=>b=c) H7 zs:=(yL.trans Mi fun b hb=>.inl hb).trans (oP.hO RB) fun b ⟨e,he⟩=>.inr (fK.own kx he)
  have r14:RD zs c (Mf iE).2:=by
   obtain⟨k,rest,e,h1,h2⟩:=(QP.ext lN).at_
   exact⟨k,rest,e,RB.cells IM h1 (by simp),h2⟩
  have RF:=bN zs (Mf iE).2 y r14 (fun l hl=>⟨by rw[←s1,hl],fun z r hz=>by
   obtain⟨z1,z2,z3,z4,z5,z6⟩:=s2 l z r hl hz
   rw[hy,z1,z2,z3,z4,←z5,←z6]⟩) s0
  have wd:IntKind.i64.wrap (((m-i:Nat):Int)-1)=((m-(i+1):Nat):Int):=by rw[wrap64 (by omega)];omega
  rw[tH]at Mh d13
  simp -implicitDefEqProofs only[op,ef,cl,sq,reduceIte,q5,q6,q7,q9,j1,j2,j3,j4,j5,S1,S2]
  rw[←Mh]
  by_cases hs:y.id<AG L y.key
  ·have ff:(y.id:Int)<(AG L y.key:Int):=by omega
   have nj:aj (Cc L) y.key=some (.int .u64 (AG L y.key)):=by
    rcases Cd L y.key with⟨_,h0⟩|h0
    ·omega
    ·exact h0
   rw[if_pos hs]at zz
   simp -implicitDefEqProofs only[op,ef,cl,sq,reduceIte,q5,q6,q7,q9,j1,j2,j3,j4,j5,S1,xo,Xt,d13,Y1,fZ,nj,ff,bD,zz,wd]
   exact⟨i+1,by omega,.i ⟨S9,xs++[y],rfl,IC,by simp[zm],m14,RF,RE⟩,rfl,aq⟩
  ·rw[if_neg hs]at zz
   rcases Cd L y.key with⟨nj,h0⟩|nj
   ·have ff:¬((y.id:Int)<0):=by omega
    simp -implicitDefEqProofs only[op,ef,cl,sq,reduceIte,q5,q6,q7,q9,j1,j2,j3,j4,j5,S1,xo,Xt,d13,Y1,fZ,nj,ff,bD,zz,wd]
    exact⟨i+1,by omega,.i ⟨S9,xs++[y],rfl,IC,by simp[zm],m14,RF,RE⟩,rfl,aq⟩
   ·have ff:¬((y.id:Int)<(AG L y.key:Int)):=by omega
    simp -implicitDefEqProofs only[op,ef,cl,sq,reduceIte,q5,q6,q7,q9,j1,j2,j3,j4,j5,S1,xo,Xt,d13,Y1,fZ,nj,ff,bD,zz,wd]
    exact⟨i+1,by omega,.i ⟨S9,xs++[y],rfl,IC,by simp[zm],m14,RF,RE⟩,rfl,aq⟩
 rintro R H8⟨kk,K,xo,oH,yL⟩
 have nE:=lE nn yL hc
 obtain⟨m4,r9,RG⟩:∃m4,RD H8 c m4∧((∃r,m4=some r∧tv qL tw=some (K,r))∨(m4=none∧tv qL tw=none)):=by
  rcases oH.end_ hpc with⟨r,h1,h2⟩|⟨h1,h2⟩
  ·exact⟨some r,h2,.inl ⟨r,rfl,h1⟩⟩
  ·exact⟨none,h2,.inr ⟨rfl,h1⟩⟩
 simp -implicitDefEqProofs only[ai,ah,op,ef,cl,sq,reduceIte,q5,q6,q7,q9,j1,j2,j3,j4,j5,S1,xo]
 refine ae _ _ _ _ _ _ _ _ (Xl r9) ?_
 rintro u H9⟨rfl,er,hu,NO⟩
 cases hu
 by_cases hw:m4=some []
 rotate_left
 ·have IK:¬er=0:=fun h0=>hw (NO.1 h0)
  have e1:(er != 0)=true:=by simpa using IK
  have hp:pR bd=none:=by
   unfold pR
   rw[hH]
   simp only
   rcases Xs with⟨r,h1,h2⟩|⟨h1,h2⟩
   ·rw[h2]
    simp only
    rw[h1]at RG
    rcases RG with⟨r',h3,h4⟩|⟨h3,h4⟩
    ·rw[h4]
     simp only
     rw[if_neg (fun h=>hw (by rw[h3,h]))]
    ·rw[h4]
   ·rw[h2]
  simp -implicitDefEqProofs only[op,ef,cl,sq,reduceIte,q5,q6,q7,q9,j1,j2,j3,j4,j5,S1,e1]
  exact bad nE hp
 have IK:er=0:=NO.2 hw
 subst IK
 have e1:((0:Int) != 0)=false:=rfl
 have hp:pR bd=some (q8.1,L,K):=by
  unfold pR
  rw[hH]
  simp only
  rcases RG with⟨r',h3,h4⟩|⟨h3,h4⟩
  ·rw[hw]at h3
   cases h3
   rcases Xs with⟨r,h1,h2⟩|⟨h1,h2⟩
   ·rw[h2]
    simp only
    rw[←h1,h4]
    simp -implicitDefEqProofs only[if_true]
   ·rw[h1]at h4;cases h4
  ·rw[hw]at h3;cases h3
 obtain⟨Ai,jd⟩:=Jy zt _ _ _ hp
 have hKk:∀x∈K,x.kk=.arg∧x.keys.length≤1024:=by
  rcases RG with⟨r',h3,h4⟩|⟨h3,h4⟩
  ·exact Mg (fun l x r h=>Ry h) h4
  ·rw[hw]at h3;cases h3
 have wg:IntKind.i64.wrap (q8.1:Int)=(q8.1:Int):=wrap64 (by omega)
 simp -implicitDefEqProofs only[op,ef,cl,sq,reduceIte,q5,q6,q7,q9,j1,j2,j3,j4,j5,S1,e1,xo]
 refine ae _ _ _ _ _ _ _ _ (Q5 kk kL (K.map (nq now L)) L (by rw[List.length_map];exact Ai) jd (fun x hx=>by
  obtain⟨z,hz,rfl⟩:=List.mem_map.1 hx
  have:=hKk z hz
  exact⟨fun e=>(by have h5:(nq now L z).kk=z.kk:=rfl;rw[h5,this.1]at e;cases e),by show z.keys.length≤_;omega⟩) _) ?_
 rintro u pq (⟨lG,b,F,hu,Y2⟩|⟨fI,hu,ig⟩)
 ·cases hu
  have e2:((0:Int) != 0)=false:=rfl
  simp -implicitDefEqProofs only[op,ef,cl,sq,reduceIte,q5,q6,q7,q9,j1,j2,j3,j4,j5,S1,e2,wg]
  refine .inr (.inr (.inr ⟨ht,zt,q8.1,L,K,by rw[hq];exact hp,.inl ⟨lG,b,F,rfl,?_⟩⟩))
  rw[List.length_map]at Y2
  exact⟨Y2.at_,(aB nE).more Y2.hO (fun c h=>h.elim),fun c ir=>by have:=Y2.new c ir;have:=nE.len;omega⟩
 ·cases hu
  have e2:((1:Int) != 0)=true:=rfl
  simp -implicitDefEqProofs only[op,ef,cl,sq,reduceIte,q5,q6,q7,q9,j1,j2,j3,j4,j5,S1,e2]
  exact .inr (.inr (.inr ⟨ht,zt,q8.1,L,K,by rw[hq];exact hp,.inr ⟨fI,rfl,nE.trans ig⟩⟩))
structure xq where
 kind:Int
 id:Nat
 key:ByteArray
 pk:SK
 mG:List (ByteArray×ByteArray)
 kk:SK
 keys:List ByteArray
 now:Int
def eO (o:xq):List T:=[.int .i64 o.kind,.int .u64 o.id,.str o.key,.sl o.pk (o.mG.map eP),.sl o.kk (o.keys.map eS),.int .i64 o.now]
def Mj (o:xq):Prop:=gI o.kk o.keys∧o.keys.length≤1048576∧o.mG.length≤1048576∧o.id<18446744073709551616
open Classical in
noncomputable def sZ (a:Ab)(n:Nat)(l:List (ByteArray×ByteArray))(ks:List ByteArray)(now:Int):Ab:=if ni n l ks∧a7 now then a.put n l ks now else a
open Classical in
noncomputable def s7 (a:Ab)(n:Nat)(now:Int):Ab:=if 65536≤n∧a7 now then a.po n now else a
noncomputable def jj (a:Ab)(o:xq):Ab:=if o.kind=1 then sZ a o.id o.mG o.keys o.now else if o.kind=2 then s7 a o.id o.now else if o.kind=3 then a.AA (o.key,o.id)else a
noncomputable def jk (a:Ab)(l:List xq):Ab:=l.foldl jj a
def dM (l:List xq):Nat:=(l.map fun o=>o.mG.length).sum
theorem DD (a:Ab)(l:List xq)(o:xq):jk a (l++[o])=jj (jk a l) o:=by simp[jk]
theorem IP (l:List xq)(o:xq):dM (l++[o])=dM l+o.mG.length:=by simp[dM]
theorem IQ (l:List xq)(i:Nat):dM (l.take i)≤dM l:=by
 have h:dM l=dM (l.take i)+dM (l.drop i):=by unfold dM;rw[←List.sum_append,←List.map_append,List.take_append_drop]
 omega
section
variable {Hs H:af} {b:Bk} {a:Ab} {F:Nat→Prop} {m:Nat}
def RH (Hs H:af)(b:Bk)(a':Ab)(F:Nat→Prop)(m':Nat):Out→af→Prop:=fun o H'=>(∃t,o=.val t)∧∃F',nD Hs H' b a' F' m'∧a6 F H H'∧HW F F' H H'
theorem nD.le (h:nD Hs H b a F m){m':Nat}(hm:m≤m'):nD Hs H b a F m':=⟨h.at_.le hm,h.hO,h.new⟩
theorem adZ (n:Nat)(k k':SK)(l:List (ByteArray×ByteArray))(ks:List ByteArray)(now:Int)(h:nD Hs H b a F m)(hm:m+l.length≤8000000)(MI:ks.length≤8000000)(jP:gI k' ks) :
  W env (.call 23 [.ptr b.s 0,.int .u64 n,.sl k (l.map eP),.sl k' (ks.map eS),.int .i64 now]) H (RH Hs H b (sZ a n l ks now) F (m+l.length)):=by
 by_cases hc:ni n l ks∧a7 now
 ·have e:sZ a n l ks now=a.put n l ks now:=if_pos hc
  rw[e]
  refine W.use (ado n k k' l ks now h.at_ hm jP hc.1 hc.2) fun o H' ⟨F',hu,ha,hf,hg⟩=>⟨⟨_,hu⟩,F',h.go ha hf hg,hf,hg⟩
 ·have e:sZ a n l ks now=a:=if_neg hc
  rw[e]
  refine W.use (WE n k k' l ks now h.at_ (by omega) MI hc) fun o H' ⟨hu,hx⟩=>⟨⟨_,hu⟩,F,(h.ext hx).le (by omega),aB hx,HW.refl _ _ _⟩
theorem ad0 (n:Nat)(now:Int)(h:nD Hs H b a F m)(hm:m≤8000000):W env (.call 24 [.ptr b.s 0,.int .u64 n,.int .i64 now]) H (RH Hs H b (s7 a n now) F m):=by
 by_cases hc:65536≤n∧a7 now
 ·have e:s7 a n now=a.po n now:=if_pos hc
  rw[e]
  refine W.use (adp n now h.at_ hm hc.1 hc.2) fun o H' ⟨D,_,_,hu,ha,hf⟩=>⟨⟨_,hu⟩,F,h.go' ha hf,hf,HW.refl _ _ _⟩
 ·have e:s7 a n now=a:=if_neg hc
  rw[e]
  refine W.use (WU n now hc) fun o H' ⟨hu,hx⟩=>?_
  subst hx
  exact⟨⟨_,hu⟩,F,h,a6.refl _ _,HW.refl _ _ _⟩
theorem ad1 (k:ByteArray)(n:Nat)(h:nD Hs H b a F m)(hm:m≤7000000):W env (.call 25 [.ptr b.s 0,.str k,.int .u64 n]) H (RH Hs H b (a.AA (k,n)) F m) :=
 W.use (WN k n h.at_ hm) fun o H' ⟨e,hu,ha,hf⟩=>⟨⟨_,hu⟩,F,h.go' ha hf,hf,HW.refl _ _ _⟩
end
theorem IS {l:List (ByteArray×ByteArray)}:∀c∈l.map eP,c.map T.erase=c:=fun c hc=>by
 obtain⟨x,_,rfl⟩:=List.mem_map.1 hc;rfl
theorem IT {l:List ByteArray}:∀c∈l.map eS,c.map T.erase=c:=fun c hc=>by
 obtain⟨x,_,rfl⟩:=List.mem_map.1 hc;rfl
theorem NQ (k:SK)(ops:List xq)(ho:∀o∈ops,Mj o)(hp:dM ops≤2000000)(hl:ops.length≤8000000)(H:af) :
  W env (.call 9 [.sl k (ops.map eO)]) H (fun o H'=>∃b F,o=.val (.ptr b.s 0)∧nD H H' b (jk Ab.emp ops) F (dM ops)):=by
 refine W.bA rfl rfl rfl ?_
 simp -implicitDefEqProofs only[ZZ,op,ef,cl,sq,reduceIte,q5,q6,q7,q9,j1,j2,j3,j4,j5,S1]
 refine ae _ _ _ _ _ _ _ _ (Wz _) ?_
 rintro u H1⟨dB,b,F,hu,hA,hF⟩
 cases hu
 have dB:Ext H H1:=dB
 have Y3:nD H H1 b Ab.emp F 0:=⟨hA,aB dB,hF⟩
 have e0:dQ .ptr (.ptr b.s 0) .br=some false:=rfl
 simp -implicitDefEqProofs only[op,ef,cl,sq,reduceIte,q5,q6,q7,q9,j1,j2,j3,j4,j5,S1]
 refine W.dV 0 [(0,_),(3,_)] (fun (i:Nat) R H'=>At H' (fun H'=>∃F,nD H H' b (jk Ab.emp (ops.take i)) F (dM (ops.take i)))∧R 4=.int .i64 i∧i≤ops.length) (fun i=>ops.length-i) 0
  (fun R H'=>At H' (fun H'=>∃F,nD H H' b (jk Ab.emp ops) F (dM ops))) ⟨.i ⟨F,Y3⟩,rfl,Nat.zero_le _⟩ ?_ ?_
 ·rintro i R H2⟨⟨F,pv⟩,g4,hi⟩
  by_cases aq:i<ops.length
  rotate_left
  ·have gR:i=ops.length:=by omega
   subst gR
   rw[List.take_length]at pv
   simp -implicitDefEqProofs only[ai,ah,op,ef,cl,sq,reduceIte,q5,q6,q7,q9,j1,j2,j3,j4,j5,S1,List.length_map,g4,aq,cC]
   exact .i ⟨F,pv⟩
  obtain⟨o,zT⟩:=bM aq
  have oo:=ho o (List.mem_of_getElem? zT)
  have io:=dt (e:=eO) (n:=6) (fun _=>rfl) (by decide) (k:=k) zT
  have gZ:=aw (show i<9223372036854775807 by omega)
  have Xw:∀Hx,nu Hx 6 (.b0 (eO o))=some (eO o):=fun _=>rfl
  have Jv:=IQ ops (i+1)
  have epl:dM (ops.take (i+1))=dM (ops.take i)+o.mG.length:=by rw[fe zT,IP]
  have ert:jk Ab.emp (ops.take (i+1))=jj (jk Ab.emp (ops.take i)) o:=by rw[fe zT,DD]
  obtain⟨H3,xn⟩:∃H3,H3=H2++[B.cells (eO o)]:=⟨_,rfl⟩
  have lC:Ext H2 H3:=⟨_,xn⟩
  have d3:H3[H2.length]?=some (.cells (eO o)):=by rw[xn];exact aE rfl
  have Ml:=pv.ext lC
  have ai4:=xn
  simp -implicitDefEqProofs only[eO]at xn d3 Xw io
  have fin:∀{H':af} {F':Nat→Prop} {m':Nat},nD H H' b (jj (jk Ab.emp (ops.take i)) o) F' m'→m'≤dM (ops.take (i+1))→∃F,nD H H' b (jk Ab.emp (ops.take (i+1))) F (dM (ops.take (i+1))):=fun hh hm=>⟨_,by rw[ert];exact hh.le hm⟩
  by_cases k1:o.kind=1
  ·have b1:(o.kind==1)=true:=by simp[k1]
   have es:jj (jk Ab.emp (ops.take i)) o=sZ (jk Ab.emp (ops.take i)) o.id o.mG o.keys o.now:=if_pos k1
   simp -implicitDefEqProofs only[ai,ah,op,ef,cl,sq,reduceIte,q5,q6,q7,q9,j1,j2,j3,j4,j5,S1,List.length_map,g4,aq,e0,aa,io,Xw,S2]
   rw[←xn]
   have Xx:=all_map (enc:=eP) (n:=2) (fun _=>rfl) o.mG
   have Xy:=all_map (enc:=eS) (n:=1) (fun _=>rfl) o.keys
   obtain⟨kp,H4,ha4,jn,_,qH⟩:=qi (H:=H3) (bytes:=32) (o.mG.map eP) (ga (by simp -implicitDefEqProofs only[List.length_map];have:=oo.2.2.1;omega)) IS
   obtain⟨kq,H5,ha5,fM,_,hkq⟩:=qi (H:=H4) (bytes:=16) (o.keys.map eS) (ga (by simp -implicitDefEqProofs only[List.length_map];have:=oo.2.1;omega)) IT
   have pv5:=(Ml.ext jn).ext fM
   have d4:=jn.get d3
   have d5:=fM.get d4
   simp -implicitDefEqProofs only[op,ef,cl,sq,reduceIte,q5,q6,q7,q9,j1,j2,j3,j4,j5,S1,b1,d3,d4,d5,Xx,Xy,ha4,ha5]
   refine ae _ _ _ _ _ _ _ _ (adZ o.id kp kq o.mG o.keys o.now pv5 (by omega) (by have:=oo.2.1;omega) (fun h=>absurd h hkq)) ?_
   rintro u H6⟨⟨t,hu⟩,F',NR,_,_⟩
   cases hu
   rw[←es]at NR
   simp -implicitDefEqProofs only[op,ef,cl,sq,reduceIte,q5,q6,q7,q9,j1,j2,j3,j4,j5,S1,g4,gZ]
   exact⟨i+1,by omega,.i (fin NR (by omega)),rfl,aq⟩
  have b1:(o.kind==1)=false:=by simp[k1]
  by_cases k2:o.kind=2
  ·have b2:(o.kind==2)=true:=by simp[k2]
   have es:jj (jk Ab.emp (ops.take i)) o=s7 (jk Ab.emp (ops.take i)) o.id o.now:=by unfold jj;rw[if_neg k1,if_pos k2]
   simp -implicitDefEqProofs only[ai,ah,op,ef,cl,sq,reduceIte,q5,q6,q7,q9,j1,j2,j3,j4,j5,S1,List.length_map,g4,aq,e0,aa,io,Xw,S2]
   rw[←xn]
   simp -implicitDefEqProofs only[op,ef,cl,sq,reduceIte,q5,q6,q7,q9,j1,j2,j3,j4,j5,S1,b1,b2,d3]
   refine ae _ _ _ _ _ _ _ _ (ad0 o.id o.now Ml (by omega)) ?_
   rintro u H6⟨⟨t,hu⟩,F',NR,_,_⟩
   cases hu
   rw[←es]at NR
   simp -implicitDefEqProofs only[op,ef,cl,sq,reduceIte,q5,q6,q7,q9,j1,j2,j3,j4,j5,S1,g4,gZ]
   exact⟨i+1,by omega,.i (fin NR (by omega)),rfl,aq⟩
  have b2:(o.kind==2)=false:=by simp[k2]
  by_cases k3:o.kind=3
  ·have b3:(o.kind==3)=true:=by simp[k3]
   have es:jj (jk Ab.emp (ops.take i)) o=(jk Ab.emp (ops.take i)).AA (o.key,o.id):=by unfold jj;rw[if_neg k1,if_neg k2,if_pos k3]
   simp -implicitDefEqProofs only[ai,ah,op,ef,cl,sq,reduceIte,q5,q6,q7,q9,j1,j2,j3,j4,j5,S1,List.length_map,g4,aq,e0,aa,io,Xw,S2]
   rw[←xn]
   simp -implicitDefEqProofs only[op,ef,cl,sq,reduceIte,q5,q6,q7,q9,j1,j2,j3,j4,j5,S1,b1,b2,b3,d3]
   refine ae _ _ _ _ _ _ _ _ (ad1 o.key o.id Ml (by omega)) ?_
   rintro u H6⟨⟨t,hu⟩,F',NR,_,_⟩
   cases hu
   rw[←es]at NR
   simp -implicitDefEqProofs only[op,ef,cl,sq,reduceIte,q5,q6,q7,q9,j1,j2,j3,j4,j5,S1,g4,gZ]
   exact⟨i+1,by omega,.i (fin NR (by omega)),rfl,aq⟩
  have b3:(o.kind==3)=false:=by simp[k3]
  have es:jj (jk Ab.emp (ops.take i)) o=jk Ab.emp (ops.take i):=by unfold jj;rw[if_neg k1,if_neg k2,if_neg k3]
  rw[←es]at Ml
  simp -implicitDefEqProofs only[ai,ah,op,ef,cl,sq,reduceIte,q5,q6,q7,q9,j1,j2,j3,j4,j5,S1,List.length_map,g4,aq,e0,aa,io,Xw,S2]
  rw[←xn]
  simp -implicitDefEqProofs only[op,ef,cl,sq,reduceIte,q5,q6,q7,q9,j1,j2,j3,j4,j5,S1,b1,b2,b3,d3,g4,gZ]
  exact⟨i+1,by omega,.i (fin Ml (by omega)),rfl,aq⟩
 rintro R H2⟨F,pv⟩
 simp -implicitDefEqProofs only[ai,ah,op,ef,cl,sq,reduceIte,q5,q6,q7,q9,j1,j2,j3,j4,j5,S1]
 exact⟨b,F,rfl,pv⟩
theorem wY {f:Nm→Nat}:∀(N M:List Nm),N.Nodup→(∀x∈N,x∈M)→(N.map f).sum≤(M.map f).sum
 | [],M,_,_=>by simp
 | x :: N,M,hn,hs=>by
  have hx:=hs x (by simp)
  obtain⟨s,t,rfl⟩:=List.append_of_mem hx
  have:=wY (f:=f) N (s++t) (List.nodup_cons.1 hn).2 fun y hy=>by
   have bF:y≠x:=fun e=>(List.nodup_cons.1 hn).1 (by rw[←e];exact hy)
   have h1:=hs y (by simp[hy])
   simp -implicitDefEqProofs only[List.mem_append,List.mem_cons]at h1 ⊢
   rcases h1 with h|h|h
   ·exact .inl h
   ·exact absurd h bF
   ·exact .inr h
  simp -implicitDefEqProofs only[List.map_append,List.sum_append,List.map_cons,List.sum_cons]at this ⊢;omega
theorem AI {α:Type}{f g:α→Nat}:∀(l:List α),(∀x∈l,f x≤g x)→(l.map f).sum≤(l.map g).sum
 | [],_=>Nat.le_refl _
 | x :: l,h=>by
  have:=AI l fun y hy=>h y (List.mem_cons_of_mem _ hy)
  have:=h x (by simp)
  simp -implicitDefEqProofs only[List.map_cons,List.sum_cons];omega
theorem ob {α:Type}{f:α→Nat}(p:α→Bool):∀(l:List α),((l.filter p).map f).sum≤(l.map f).sum
 | []=>Nat.le_refl _
 | x :: l=>by
  have:=ob (f:=f) p l
  rw[List.filter_cons]
  split<;>simp -implicitDefEqProofs only[List.map_cons,List.sum_cons]<;>omega
theorem qk {α:Type}{f g:α→Nat}{l:List α}(h:∀x∈l,f x=g x):(l.map f).sum=(l.map g).sum:=congrArg List.sum (List.map_congr_left h)
theorem wZ {α:Type}(f:α→Nat)(c d:Nat):∀l:List α,(l.map fun x=>c*f x+d).sum=c*(l.map f).sum+d*l.length
 | []=>by simp
 | x :: l=>by
  simp -implicitDefEqProofs only[List.map_cons,List.sum_cons,wZ f c d l,List.length_cons,Nat.mul_add,Nat.mul_one];omega
theorem s9 {α:Type}(e:α→List Nat)(l:List α):(l.flatMap e).length=(l.map fun x=>(e x).length).sum:=by
 rw[List.length_flatMap]
def wt (a:Ab)(m:Nm):Nat:=(fF (dr a m)).length+(12+m.1.size)
structure ju (a:Ab)(B:Nat):Prop where
 w:wD a
 u:∀m,a.has m=true→m.2<18446744073709551616
 z:∃M:List Nm,M.Nodup∧(∀m,m∈M↔a.has m=true)∧(M.map (wt a)).sum≤B
theorem ju.le {a:Ab}{B B':Nat}(h:ju a B)(hb:B≤B'):ju a B':=by
 obtain⟨h1,h2,M,h3,h4,h5⟩:=h;exact⟨h1,h2,M,h3,h4,by omega⟩
theorem ju.emp:ju Ab.emp 0:=⟨wD.emp,(fun m h=>by cases h),[],List.nodup_nil,fun m=>by simp[Ab.has,Ab.emp],Nat.le_refl _⟩
theorem w6 {a a':Ab}{m:Nm}(h1:(jg (a'.v m)).value=(jg (a.v m)).value)(h2:(jg (a'.v m)).keys=(jg (a.v m)).keys):wt a' m=wt a m:=by
 unfold wt dr fF
 simp -implicitDefEqProofs only[h1,h2]
def bo (o:xq):Nat:=(o.mG.map fun p=>p.1.size+p.2.size+2).sum+(o.keys.map fun k=>k.size+1).sum
theorem IU:∀l:List (ByteArray×ByteArray),2*l.length≤(l.map fun p=>p.1.size+p.2.size+2).sum
 | []=>Nat.le_refl _
 | x :: l=>by
  have:=IU l
  simp -implicitDefEqProofs only[List.map_cons,List.sum_cons,List.length_cons];omega
theorem DE {l:List (ByteArray×ByteArray)}{ks:List ByteArray}(hP:l.length≤1024)(hN:ks.length≤1024) :
  (l.map fun p=>32+2*p.1.size+p.2.size+(ks.map fun k=>4+k.size).sum).sum≤1560*((l.map fun p=>p.1.size+p.2.size+2).sum+(ks.map fun k=>k.size+1).sum):=by
 obtain⟨T,hT⟩:∃T,T=(ks.map fun k=>4+k.size).sum:=⟨_,rfl⟩
 obtain⟨A,hA⟩:∃A,A=(l.map fun p:ByteArray×ByteArray=>p.1.size+p.2.size+2).sum:=⟨_,rfl⟩
 obtain⟨C,hC⟩:∃C,C=(ks.map fun k:ByteArray=>k.size+1).sum:=⟨_,rfl⟩
 have h1:(l.map fun p=>32+2*p.1.size+p.2.size+T).sum≤(l.map fun p:ByteArray×ByteArray=>18*(p.1.size+p.2.size+2)+T).sum:=AI l fun p _=>by omega
 have h2:(l.map fun p:ByteArray×ByteArray=>18*(p.1.size+p.2.size+2)+T).sum=18*A+T*l.length:=by rw[hA];exact wZ (fun p:ByteArray×ByteArray=>p.1.size+p.2.size+2) 18 T l
 have h3:T=C+3*ks.length:=by
  rw[hT,hC]
  have:=wZ (fun k:ByteArray=>k.size+1) 1 3 ks
  rw[Nat.one_mul]at this
  rw[←this]
  exact qk fun k _=>by omega
 have h4:2*l.length≤A:=by rw[hA];exact IU l
 have h5:T*l.length≤1024*C+3*(1024*l.length):=by
  rw[h3,Nat.add_mul]
  have a1:C*l.length≤C*1024:=Nat.mul_le_mul_left _ hP
  have a2:3*ks.length*l.length≤3*1024*l.length:=Nat.mul_le_mul_right _ (Nat.mul_le_mul_left _ hN)
  have a3:3*1024*l.length=3*(1024*l.length):=Nat.mul_assoc _ _ _
  omega
 rw[←hT,←hA,←hC]
 omega
theorem ju.put {a:Ab}{B:Nat}(h:ju a B){n:Nat}{l:List (ByteArray×ByteArray)}{ks:List ByteArray}{now:Int}(hn:n<18446744073709551616)(hm:ni n l ks)(ht:a7 now):ju (a.put n l ks now) (B+1560*((l.map fun p=>p.1.size+p.2.size+2).sum+(ks.map fun k=>k.size+1).sum)):=by
 obtain⟨hw,hu,M,h3,h4,h5⟩:=h
 have fH:=HX hm
 have hN:ks.length≤1024:=hm.2.1.2.2
 have hP:l.length≤1024:=by
  have:=BX fH fun x hx=>by
   obtain⟨p,hp,rfl⟩:=List.mem_map.1 hx
   exact(B1 hm hp).1
  rw[List.length_map]at this;omega
 obtain⟨l',zY⟩:∃l',l'=l.filter fun p=>!a.has (p.1,n):=⟨_,rfl⟩
 refine⟨hw.put hm ht,fun m rA=>?_,M++l'.map (fun p=>(p.1,n)),?_,fun m=>?_,?_⟩
 ·rw[wz]at rA
  simp -implicitDefEqProofs only[Bool.or_eq_true,Bool.and_eq_true,decide_eq_true_eq]at rA
  rcases rA with h|⟨h,_⟩
  ·exact hu m h
  ·omega
 ·refine List.nodup_append.2 ⟨h3,?_,fun x hx y hy=>?_⟩
  ·refine List.pairwise_map.2 ?_
   have:=(List.pairwise_map.1 fH).filter fun p=>!a.has (p.1,n)
   rw[←zY]at this
   exact this.imp fun h e=>h (Prod.mk.inj e).1
  ·obtain⟨p,hp,rfl⟩:=List.mem_map.1 hy
   rw[zY]at hp
   have:=(List.mem_filter.1 hp).2
   rintro rfl
   rw[(h4 _).1 hx]at this;cases this
 ·rw[wz,List.mem_append,h4]
  simp -implicitDefEqProofs only[Bool.or_eq_true,Bool.and_eq_true,decide_eq_true_eq]
  constructor
  ·rintro (h|h)
   ·exact .inl h
   ·obtain⟨p,hp,rfl⟩:=List.mem_map.1 h
    rw[zY]at hp
    refine .inr ⟨rfl,?_⟩
    rw[dY fH (List.mem_filter.1 hp).1];rfl
  ·rintro (h|⟨h1,h2⟩)
   ·exact .inl h
   ·by_cases hh:a.has m=true
    ·exact .inl hh
    ·right
     obtain⟨v,hv⟩:=Option.isSome_iff_exists.1 h2
     have iI:=kj hv
     refine List.mem_map.2 ⟨(m.1,v),?_,by rw[←h1]⟩
     rw[zY]
     refine List.mem_filter.2 ⟨iI,?_⟩
     have:(m.1,n)=m:=by rw[←h1]
     show(!a.has (m.1,n))=true
     rw[this];simpa using hh
 ·rw[List.map_append,List.sum_append]
  have e1:(M.map (wt (a.put n l ks now))).sum=(M.map (wt a)).sum:=qk fun m rA=>by
   have:=(h4 m).1 rA
   obtain⟨d,hd⟩:=Option.isSome_iff_exists.1 this
   have e:(a.put n l ks now).v m=some d:=by rw[Ib,hd];rfl
   exact w6 (by rw[e,hd]) (by rw[e,hd])
  have e2:((l'.map fun p=>(p.1,n)).map (wt (a.put n l ks now))).sum≤(l.map fun p=>32+2*p.1.size+p.2.size+(ks.map fun k=>4+k.size).sum).sum:=by
   rw[List.map_map]
   refine Nat.le_trans (AI (g:=fun p=>32+2*p.1.size+p.2.size+(ks.map fun k=>4+k.size).sum) l' fun p hp=>?_) (by rw[zY];exact ob _ _)
   rw[zY]at hp
   obtain⟨kJ,lH⟩:=List.mem_filter.1 hp
   have fI:a.v (p.1,n)=none:=by
    have:a.has (p.1,n)=false:=by simpa using lH
    unfold Ab.has at this
    cases hv:a.v (p.1,n)with
    | none=>rfl
    | some d=>rw[hv]at this;cases this
   have e:(a.put n l ks now).v (p.1,n)=some ⟨p.2,ks,if n<a.last p.1 then now else -1⟩:=by
    rw[Ib,fI,if_pos rfl,dY fH kJ];rfl
   show wt (a.put n l ks now) (p.1,n)≤_
   unfold wt dr fF
   rw[e]
   simp -implicitDefEqProofs only[jg,Option.getD_some,List.length_append,dE,aF,wR,s9]
   have:(ks.map fun x=>(eT x).length).sum=(ks.map fun k=>4+k.size).sum:=qk fun k _=>dE k
   omega
  have e3:=DE (l:=l) (ks:=ks) hP hN
  omega
theorem ju.same {a a':Ab}{B:Nat}(h:ju a B)(hw:wD a')(hh:∀m,a'.has m=a.has m)(hv:∀m d,a'.v m=some d→∃d',a.v m=some d'∧d'.value=d.value∧d'.keys=d.keys):ju a' B:=by
 obtain⟨_,hu,M,h3,h4,h5⟩:=h
 refine⟨hw,fun m hm=>hu m (by rw[←hh];exact hm),M,h3,fun m=>by rw[h4,hh],?_⟩
 have:(M.map (wt a')).sum=(M.map (wt a)).sum:=qk fun m hm=>by
  have h0:=(h4 m).1 hm
  rw[←hh]at h0
  obtain⟨d,hd⟩:=Option.isSome_iff_exists.1 h0
  obtain⟨d',iC,e1,e2⟩:=hv m d hd
  exact w6 (by rw[hd,iC];exact e1.symm) (by rw[hd,iC];exact e2.symm)
 omega
theorem ju.po {a:Ab}{B:Nat}(h:ju a B){n:Nat}{now:Int}(ht:a7 now):ju (a.po n now) B :=
 h.same (h.w.po ht) (fun m=>BZ) fun m d hd=>by
  obtain⟨y,h1,h2,h3,_⟩:=sN hd
  exact⟨y,h1,h2.symm,h3.symm⟩
theorem ju.AA {a:Ab}{B:Nat}(h:ju a B)(m:Nm):ju (a.AA m) B:=by
 have hw:=h.w.AA m
 unfold Ab.AA at hw ⊢
 cases hv:a.v m with
 | none=>exact h
 | some d =>
  rw[hv]at hw
  simp only at hw ⊢
  split
  ·exact h
  ·rename_i hs
   rw[if_neg hs]at hw
   obtain⟨_,hu,M,h3,h4,h5⟩:=h
   have hc:∀m',(a.cut m).has m'=(a.has m'&&!decide (m'=m)):=fun m'=>by
    unfold Ab.has Ab.cut
    by_cases e:m'=m<;>simp[e]
   refine⟨hw,fun m' rA=>hu m' (by rw[hc]at rA;simp -implicitDefEqProofs only[Bool.and_eq_true]at rA;exact rA.1),M.filter (fun m'=>!decide (m'=m)),h3.filter _,fun m'=>by rw[List.mem_filter,h4,hc,Bool.and_eq_true],?_⟩
   have e1:((M.filter fun m'=>!decide (m'=m)).map (wt (a.cut m))).sum=((M.filter fun m'=>!decide (m'=m)).map (wt a)).sum:=qk fun m' rA=>by
    have bF:=(List.mem_filter.1 rA).2
    have bF:m'≠m:=by simpa using bF
    have e:(a.cut m).v m'=a.v m':=by unfold Ab.cut;simp[bF]
    exact w6 (by rw[e]) (by rw[e])
   have:=ob (f:=wt a) (fun m'=>!decide (m'=m)) M
   omega
theorem ju.sZ {a:Ab}{B:Nat}(h:ju a B){n:Nat}{l:List (ByteArray×ByteArray)}{ks:List ByteArray}{now:Int}(hn:n<18446744073709551616):ju (sZ a n l ks now) (B+1560*((l.map fun p=>p.1.size+p.2.size+2).sum+(ks.map fun k=>k.size+1).sum)):=by
 unfold St.sZ
 split
 ·rename_i hc;exact h.put hn hc.1 hc.2
 ·exact h.le (by omega)
theorem ju.s7 {a:Ab}{B:Nat}(h:ju a B){n:Nat}{now:Int}:ju (s7 a n now) B:=by
 unfold St.s7
 split
 ·rename_i hc;exact h.po hc.2
 ·exact h
theorem ju.step {a:Ab}{B:Nat}(h:ju a B){o:xq}(ho:Mj o):ju (jj a o) (B+1560*bo o):=by
 unfold jj
 split
 ·exact h.sZ ho.2.2.2
 ·split
  ·exact h.s7.le (by omega)
  ·split
   ·exact(h.AA _).le (by omega)
   ·exact h.le (by omega)
def bos (l:List xq):Nat:=(l.map bo).sum
theorem ju.run:∀{a:Ab} {B:Nat} (l:List xq),ju a B→(∀o∈l,Mj o)→ju (jk a l) (B+1560*bos l)
 | a,B,[],h,_=>by simpa[jk,bos]using h
 | a,B,o :: l,h,ho=>by
  have:=ju.run l (h.step (ho o (by simp))) fun x hx=>ho x (List.mem_cons_of_mem _ hx)
  show ju (jk (jj a o) l) _
  refine this.le ?_
  show _≤B+1560*(bo o+bos l)
  omega
theorem ju.body {a:Ab}{B:Nat}(h:ju a B){N:List Nm}(hN:Names a N){ls:List ByteArray}(hL:dN a ls)(g:Nat):(body g (ls.map (jt a)) (N.map (dr a))).length≤21+B:=by
 obtain⟨hw,hu,M,h3,h4,h5⟩:=h
 rw[kr,s9,s9,List.map_map,List.map_map]
 have hNM:=wY (f:=wt a) N M hN.nd fun x hx=>(h4 x).2 ((hN.2 x).1 hx)
 have zI:(N.map (wt a)).sum=(N.map fun m=>(fF (dr a m)).length).sum+(N.map fun m:Nm=>12+m.1.size).sum:=by
  unfold wt
  clear hNM hN
  induction N with
  | nil=>rfl
  | cons x N ih=>simp -implicitDefEqProofs only[List.map_cons,List.sum_cons,ih];omega
 have fU:((ls.map (jt a)).map fun m:Nm=>12+m.1.size).sum≤(N.map fun m:Nm=>12+m.1.size).sum:=by
  refine wY _ _ (List.pairwise_map.2 (hL.1.imp fun {x y} HZ e=>by
   have:x=y:=(Prod.mk.inj e).1
   rw[this,fA]at HZ;cases HZ)) fun x hx=>?_
  obtain⟨k,hk,rfl⟩:=List.mem_map.1 hx
  obtain⟨n,hn⟩:=Option.isSome_iff_exists.1 ((hL.2 k).1 hk)
  refine(hN.2 _).2 ?_
  have:jt a k=(k,n):=by unfold jt Ab.last;rw[hn];rfl
  rw[this]
  exact hw.L _ _ hn
 rw[List.map_map]at fU
 have e1:(ls.map ((fun x=>(jR x).length) ∘ jt a)).sum=(ls.map ((fun m:Nm=>12+m.1.size) ∘ jt a)).sum:=qk fun k _=>by
  show(eT (jt a k).1++cd 8 (jt a k).2).length=12+(jt a k).1.size
  rw[List.length_append,dE,aF];omega
 have e2:(N.map ((fun x=>(fF x).length) ∘ dr a)).sum=(N.map fun m=>(fF (dr a m)).length).sum:=rfl
 omega
theorem Xz {x:Nm}(r:List Nat)(h1:x.1.size≤65535)(h2:x.2<18446744073709551616):tu (jR x++r)=some (x,r):=by
 unfold tu jR
 rw[List.append_assoc,yT _ h1 (by omega)]
 simp only
 rw[sQ _ (show x.2<256^8 from h2)]
theorem Mm {m n:Nat}(r:List Nat)(h:n≤m)(h4:n<4294967296):pC m (cd 4 n++r)=some (n,r):=by
 unfold pC
 rw[sQ _ (show n<256^4 from h4)]
 simp only
 rw[if_neg (by omega)]
theorem XA {ks:List ByteArray}(r:List Nat)(h1:ks.length≤1024)(h2:∀k∈ks,k.size≤65535):wX 1024 65535 (sX ks++r)=some (ks,r):=by
 unfold wX sX
 rw[List.append_assoc,Mm _ h1 (by omega)]
 simp only
 exact wO (e:=eT) ks r fun k hk r=>yT r (h2 k hk) (by have:=h2 k hk;omega)
def raw (x:Kd):Kd:={ x with kk:=.arg,a9:=-1 }
structure JD (x:Kd):Prop where
 key:x.key.size≤65535
 id:x.id<18446744073709551616
 val:x.value.size≤65535
 len:x.keys.length≤1024
 keys:∀k∈x.keys,k.size≤65535
theorem XB {x:Kd}(r:List Nat)(h:JD x):qL (fF x++r)=some (raw x,r):=by
 unfold qL fF
 rw[List.append_assoc,yT _ h.key (by have:=h.key;omega)]
 simp only
 rw[List.append_assoc,sQ _ (show x.id<256^8 from h.id)]
 simp only
 rw[List.append_assoc,yT _ h.val (by have:=h.val;omega)]
 simp only
 rw[XA _ h.len h.keys]
 rfl
theorem Cf (x:Kd):fF (raw x)=fF x:=rfl
theorem NS {α:Type}{p:List Nat→Option (α×List Nat)}{e:α→List Nat}(xs:List α)(r:List Nat)(hx:∀x∈xs,∀r,p (e x++r)=some (x,r))(hl:xs.length≤2147483647):tv p (some (cd 4 xs.length++(xs.flatMap e++r)))=some (xs,r):=by
 unfold tv
 simp only
 rw[Mm _ hl (by omega)]
 simp only
 exact wO xs r hx
theorem ad3 {g:Nat}(r:List Nat)(h1:1≤g)(h2:g≤9223372036854775807):pH (cd 4 1918987632++(cd 1 1++(cd 8 g++r)))=some (g,r):=by
 unfold pH
 rw[sQ _ (by decide)]
 simp only
 rw[sQ _ (by decide)]
 simp only
 rw[sQ _ (show g<256^8 by show g<18446744073709551616;omega)]
 simp only
 rw[if_pos ⟨trivial,trivial,h1,h2⟩]
theorem XC {g:Nat}{L:List Nm}{K:List Kd}(h1:1≤g)(h2:g≤9223372036854775807)(hL:∀x∈L,x.1.size≤65535∧x.2<18446744073709551616)(hK:∀x∈K,JD x)(Rn:L.length≤2147483647)(S5:K.length≤2147483647):pR (body g L K)=some (g,L,K.map raw):=by
 unfold pR body
 rw[ad3 _ h1 h2]
 simp only
 rw[NS (e:=jR) L _ (fun x hx r=>Xz r (hL x hx).1 (hL x hx).2) Rn]
 simp only
 have ef:K.flatMap fF=(K.map raw).flatMap fF++[]:=by
  rw[List.append_nil,List.flatMap_map]
  rfl
 have el:K.length=(K.map raw).length:=(List.length_map _).symm
 rw[ef,el,NS (e:=fF) (K.map raw) [] (fun x hx r=>by
  obtain⟨y,hy,rfl⟩:=List.mem_map.1 hx
  rw[Cf,XB r (hK y hy)]) (by rw[←el];exact S5)]
 simp -implicitDefEqProofs only[if_true]
theorem Mn {l r:List Nat}{x:Nm}(hb:cT l)(h:tu l=some (x,r)):l=jR x++r∧(x.1.size≤65535∧x.2<18446744073709551616)∧cT r:=by
 unfold tu at h
 cases h1:pT 65535 l with
 | none=>rw[h1]at h;cases h
 | some y =>
  obtain⟨k,r1⟩:=y
  rw[h1]at h
  simp only at h
  obtain⟨e1,e2,_,e3⟩:=mD hb h1
  cases h2:pN 8 r1 with
  | none=>rw[h2]at h;cases h
  | some z =>
   obtain⟨v,r2⟩:=z
   rw[h2]at h
   simp -implicitDefEqProofs only[Option.some.injEq,Prod.mk.injEq]at h
   obtain⟨rfl,rfl⟩:=h
   obtain⟨f1,f2,f3⟩:=fp e3 h2
   exact⟨by unfold jR;rw[List.append_assoc,←f1];exact e1,⟨e2,f2⟩,f3⟩
theorem w7 {m v:Nat}{l r:List Nat}(hb:cT l)(h:pC m l=some (v,r)):l=cd 4 v++r∧v≤m∧cT r:=by
 obtain⟨h1,h2⟩:=lu h
 obtain⟨f1,f2,f3⟩:=fp hb h1
 exact⟨f1,h2,f3⟩
theorem Mo {c:Nat}{ks:List ByteArray}{l r:List Nat}(hb:cT l)(h:wX c 65535 l=some (ks,r)):l=sX ks++r∧(ks.length≤c∧∀k∈ks,k.size≤65535)∧cT r:=by
 unfold wX at h
 cases h1:pC c l with
 | none=>rw[h1]at h;cases h
 | some y =>
  obtain⟨n,r1⟩:=y
  rw[h1]at h
  simp only at h
  obtain⟨e1,e2,e3⟩:=w7 hb h1
  have hl:=qh h
  obtain⟨f1,f2,f3⟩:=sR (e:=eT) (Q:=fun k=>k.size≤65535) e3 (fun l x r hb h=>by
   obtain⟨a1,a2,_,a3⟩:=mD hb h;exact⟨a1,a2,a3⟩) h
  exact⟨by unfold sX;rw[List.append_assoc,←f1,hl];exact e1,⟨by omega,f2⟩,f3⟩
theorem Mp {l r:List Nat}{x:Kd}(hb:cT l)(h:qL l=some (x,r)):l=fF x++r∧(JD x∧raw x=x)∧cT r:=by
 unfold qL at h
 cases h1:pT 65535 l with
 | none=>rw[h1]at h;cases h
 | some y =>
  obtain⟨k,r1⟩:=y
  rw[h1]at h
  simp only at h
  obtain⟨e1,e2,_,e3⟩:=mD hb h1
  cases h2:pN 8 r1 with
  | none=>rw[h2]at h;cases h
  | some z =>
   obtain⟨v,r2⟩:=z
   rw[h2]at h
   simp only at h
   obtain⟨f1,f2,f3⟩:=fp e3 h2
   cases h3:pT 65535 r2 with
   | none=>rw[h3]at h;cases h
   | some w =>
    obtain⟨w,r3⟩:=w
    rw[h3]at h
    simp only at h
    obtain⟨g1,g2,_,g3⟩:=mD f3 h3
    cases h4:wX 1024 65535 r3 with
    | none=>rw[h4]at h;cases h
    | some q =>
     obtain⟨ks,r4⟩:=q
     rw[h4]at h
     simp -implicitDefEqProofs only[Option.some.injEq,Prod.mk.injEq]at h
     obtain⟨rfl,rfl⟩:=h
     obtain⟨a1,a2,a3⟩:=Mo g3 h4
     refine⟨?_,⟨⟨e2,f2,g2,a2.1,a2.2⟩,rfl⟩,a3⟩
     unfold fF
     simp -implicitDefEqProofs only[List.append_assoc]
     rw[←a1,←g1,←f1]
     exact e1
theorem Cg {α:Type}{p:List Nat→Option (α×List Nat)}{e:α→List Nat}{Q:α→Prop}{l r:List Nat}{xs:List α}(hb:cT l)(hp:∀l x r,cT l→p l=some (x,r)→l=e x++r∧Q x∧cT r)(h:tv p (some l)=some (xs,r)):l=cd 4 xs.length++(xs.flatMap e++r)∧(∀x∈xs,Q x)∧xs.length≤2147483647∧cT r:=by
 unfold tv at h
 simp only at h
 cases h1:pC 2147483647 l with
 | none=>rw[h1]at h;cases h
 | some y =>
  obtain⟨n,r1⟩:=y
  rw[h1]at h
  simp only at h
  obtain⟨e1,e2,e3⟩:=w7 hb h1
  have hl:=qh h
  obtain⟨f1,f2,f3⟩:=sR e3 hp h
  exact⟨by rw[←f1,hl];exact e1,f2,by omega,f3⟩
theorem IV {g:Nat}{L:List Nm}{K:List Kd}{l:List Nat}(hb:cT l)(h:pR l=some (g,L,K)):l=body g L K∧(1≤g∧g≤9223372036854775807)∧(∀x∈L,x.1.size≤65535∧x.2<18446744073709551616)∧(∀x∈K,JD x∧raw x=x)∧L.length≤2147483647∧K.length≤2147483647:=by
 unfold pR at h
 cases h1:pH l with
 | none=>rw[h1]at h;cases h
 | some y =>
  obtain⟨g',r3⟩:=y
  rw[h1]at h
  simp only at h
  have hh:l=cd 4 1918987632++(cd 1 1++(cd 8 g'++r3))∧(1≤g'∧g'≤9223372036854775807)∧cT r3:=by
   unfold pH at h1
   cases k1:pN 4 l with
   | none=>rw[k1]at h1;cases h1
   | some a =>
    obtain⟨f,s1⟩:=a
    rw[k1]at h1
    simp only at h1
    obtain⟨e1,_,b1⟩:=fp hb k1
    cases k2:pN 1 s1 with
    | none=>rw[k2]at h1;cases h1
    | some a =>
     obtain⟨k,s2⟩:=a
     rw[k2]at h1
     simp only at h1
     obtain⟨e2,_,b2⟩:=fp b1 k2
     cases k3:pN 8 s2 with
     | none=>rw[k3]at h1;cases h1
     | some a =>
      obtain⟨v,s3⟩:=a
      rw[k3]at h1
      simp only at h1
      obtain⟨e3,_,b3⟩:=fp b2 k3
      split at h1
      ·rename_i hc
       simp -implicitDefEqProofs only[Option.some.injEq,Prod.mk.injEq]at h1
       obtain⟨rfl,rfl⟩:=h1
       rw[hc.1]at e1
       rw[hc.2.1]at e2
       exact⟨by rw[←e3,←e2];exact e1,⟨hc.2.2.1,hc.2.2.2⟩,b3⟩
      ·cases h1
  obtain⟨e1,hg,b3⟩:=hh
  cases h2:tv tu (some r3)with
  | none=>rw[h2]at h;cases h
  | some z =>
   obtain⟨L',r4⟩:=z
   rw[h2]at h
   simp only at h
   obtain⟨f1,f2,f3,f4⟩:=Cg (e:=jR) b3 (fun l x r hb h=>Mn hb h) h2
   cases h3:tv qL (some r4)with
   | none=>rw[h3]at h;cases h
   | some w =>
    obtain⟨K',r5⟩:=w
    rw[h3]at h
    simp only at h
    obtain⟨q1,q2,q3,q4⟩:=Cg (e:=fF) f4 (fun l x r hb h=>Mp hb h) h3
    split at h
    ·rename_i h5
     simp -implicitDefEqProofs only[Option.some.injEq,Prod.mk.injEq]at h
     obtain⟨rfl,rfl,rfl⟩:=h
     subst h5
     rw[List.append_nil]at q1
     exact⟨by unfold body;rw[←q1,←f1];exact e1,hg,f2,q2,f3,q3⟩
    ·cases h
def gv (now:Int)(a:Ab):Ab:=⟨fun m=>(a.v m).map fun d=>⟨d.value,d.keys,if m.2<a.last m.1 then now else -1⟩,a.l⟩
theorem DF (now:Int)(a:Ab):(gv now a).last=a.last:=rfl
theorem ta (now:Int)(a:Ab)(m:Nm):(gv now a).has m=a.has m:=by
 show((a.v m).map _).isSome=(a.v m).isSome
 cases a.v m<;>rfl
theorem oc {now:Int}{a:Ab}{N:List Nm}(h:Names a N):Names (gv now a) N:=⟨h.1,fun m=>by rw[ta];exact h.2 m⟩
theorem mH {now:Int}{a:Ab}{ls:List ByteArray}(h:dN a ls):dN (gv now a) ls:=h
theorem wD.rest {a:Ab}(h:wD a){now:Int}(ht:a7 now):wD (gv now a):=by
 have key:∀m x,(gv now a).v m=some x→∃d,a.v m=some d∧x=⟨d.value,d.keys,if m.2<a.last m.1 then now else -1⟩:=fun m x e=>by
  obtain⟨d,hd,e⟩:=Option.map_eq_some_iff.1 e
  exact⟨d,hd,e.symm⟩
 refine⟨fun m x e=>?_,fun m x e=>?_,fun m x e=>?_,fun k n e=>?_⟩
 ·obtain⟨d,_,rfl⟩:=key m x e
  rw[DF]
  show(if m.2<a.last m.1 then now else -1)=-1↔_
  by_cases hl:m.2<a.last m.1
  ·rw[if_pos hl]
   constructor
   ·intro h1;unfold a7 at ht;omega
   ·intro h1;exact absurd hl h1
  ·rw[if_neg hl];exact⟨fun _=>hl,fun _=>rfl⟩
 ·obtain⟨d,_,rfl⟩:=key m x e
  show(if m.2<a.last m.1 then now else -1)=-1∨a7 (if m.2<a.last m.1 then now else -1)
  split
  ·exact .inr ht
  ·exact .inl rfl
 ·obtain⟨d,hd,rfl⟩:=key m x e
  exact h.G m d hd
 ·rw[ta];exact h.L k n e
theorem ju.rest {a:Ab}{B:Nat}(h:ju a B){now:Int}(ht:a7 now):ju (gv now a) B :=
 h.same (h.w.rest ht) (fun m=>ta now a m) fun m d hd=>by
  obtain⟨d0,h1,rfl⟩:=Option.map_eq_some_iff.1 hd
  exact⟨d0,h1,rfl,rfl⟩
theorem re {k:ByteArray}:∀(xs:List Nm) (v:Nat),(∀x∈xs,x.1≠k)→xs.foldl (fun v x=>if x.1=k then x.2 else v) v=v
 | [],_,_=>rfl
 | x :: xs,v,h=>by
  rw[List.foldl_cons,if_neg (h x (by simp))]
  exact re xs v fun y hy=>h y (List.mem_cons_of_mem _ hy)
theorem w9 {k:ByteArray}{n:Nat}:∀(xs:List Nm) (v:Nat),(xs.map (·.1)).Nodup→(k,n)∈xs→xs.foldl (fun v x=>if x.1=k then x.2 else v) v=n
 | [],_,_,h=>by cases h
 | x :: xs,v,hn,h=>by
  rw[List.foldl_cons]
  obtain⟨h1,h2⟩:=List.nodup_cons.1 hn
  rcases List.mem_cons.1 h with e|h
  ·subst e
   rw[if_pos rfl]
   exact re xs n fun y hy e=>h1 (List.mem_map.2 ⟨y,hy,e⟩)
  ·exact w9 xs _ h2 h
theorem IW {a:Ab}{ls:List ByteArray}(h:dN a ls)(k:ByteArray):AG (ls.map (jt a)) k=a.last k:=by
 by_cases hk:(a.l k).isSome=true
 ·refine w9 _ _ ?_ (List.mem_map.2 ⟨k,(h.2 k).2 hk,rfl⟩)
  rw[List.map_map]
  exact List.pairwise_map.2 (h.1.imp fun {x y} HZ e=>by
   have:x=y:=e
   rw[this,fA]at HZ;cases HZ)
 ·have h0:a.last k=0:=by
   unfold Ab.last
   cases hl:a.l k with
   | none=>rfl
   | some n=>rw[hl]at hk;exact absurd rfl hk
  rw[h0]
  refine re _ _ fun x hx e=>hk ?_
  obtain⟨y,hy,rfl⟩:=List.mem_map.1 hx
  have:y=k:=e
  rw[←this];exact(h.2 y).1 hy
theorem IX {now:Int}{a:Ab}{N:List Nm}{ls:List ByteArray}(hN:Names a N)(hL:dN a ls):((N.map (dr a)).map raw).map (nq now (ls.map (jt a)))=N.map (dr (gv now a)):=by
 rw[List.map_map,List.map_map]
 refine List.map_congr_left fun m hm=>?_
 obtain⟨d,hd⟩:=Option.isSome_iff_exists.1 ((hN.2 m).1 hm)
 have e:(gv now a).v m=some ⟨d.value,d.keys,if m.2<a.last m.1 then now else -1⟩:=by unfold gv;simp -implicitDefEqProofs only[hd,Option.map_some]
 show nq now (ls.map (jt a)) (raw (dr a m))=dr (gv now a) m
 unfold nq raw dr
 simp -implicitDefEqProofs only[IW hL,e,hd]
 rfl
theorem ju.kdB {a:Ab}{B:Nat}(h:ju a B){N:List Nm}(hN:Names a N):∀x∈N.map (dr a),JD x:=fun x hx=>by
 obtain⟨m,hm,rfl⟩:=List.mem_map.1 hx
 have hh:=(hN.2 m).1 hm
 obtain⟨d,hd⟩:=Option.isSome_iff_exists.1 hh
 obtain⟨g1,g2,g3,g4⟩:=h.w.G m d hd
 have hk:∀k∈d.keys,k.size≤65535:=fun k hk=>by
  have:=cS.2 g2
  simp -implicitDefEqProofs only[gU,Bool.and_eq_true,List.all_eq_true,decide_eq_true_eq]at this
  exact this.1.1.2 k hk
 have hv:jg (a.v m)=d:=by rw[hd];rfl
 refine⟨hk _ g3,h.u m hh,?_,?_,?_⟩
 ·show(jg (a.v m)).value.size≤_;rw[hv];exact g4
 ·show(jg (a.v m)).keys.length≤_;rw[hv];exact g2.2.2
 ·show ∀k∈(jg (a.v m)).keys,_;rw[hv];exact hk
theorem ju.lnB {a:Ab}{B:Nat}(h:ju a B){ls:List ByteArray}(hL:dN a ls):∀x∈ls.map (jt a),x.1.size≤65535∧x.2<18446744073709551616:=fun x hx=>by
 obtain⟨k,hk,rfl⟩:=List.mem_map.1 hx
 obtain⟨n,hn⟩:=Option.isSome_iff_exists.1 ((hL.2 k).1 hk)
 have e:jt a k=(k,n):=by unfold jt Ab.last;rw[hn];rfl
 have hh:=h.w.L k n hn
 obtain⟨d,hd⟩:=Option.isSome_iff_exists.1 hh
 obtain⟨g1,g2,g3,g4⟩:=h.w.G _ d hd
 rw[e]
 refine⟨?_,h.u _ hh⟩
 have:=cS.2 g2
 simp -implicitDefEqProofs only[gU,Bool.and_eq_true,List.all_eq_true,decide_eq_true_eq]at this
 exact this.1.1.2 k g3
theorem ju.back {a:Ab}{B:Nat}(h:ju a B){N:List Nm}(hN:Names a N){ls:List ByteArray}(hL:dN a ls){g:Nat}(h1:1≤g)(h2:g≤9223372036854775807)(hN2:N.length≤2147483647)(hL2:ls.length≤2147483647) :
  pR (St.body g (ls.map (jt a)) (N.map (dr a)))=some (g,ls.map (jt a),(N.map (dr a)).map raw) :=
 XC h1 h2 (h.lnB hL) (h.kdB hN) (by rw[List.length_map];exact hL2) (by rw[List.length_map];exact hN2)
theorem pd {b:List Nat}:eZ (whole b)∧(whole b).take ((whole b).length-4)=b:=by
 have hl:(whole b).length-4=b.length:=by unfold whole;rw[List.length_append,aF];omega
 have ht:(whole b).take b.length=b:=by unfold whole;rw[List.take_left' rfl]
 refine⟨⟨by unfold whole;rw[List.length_append,aF];omega,?_⟩,by rw[hl,ht]⟩
 rw[hl,ht]
 unfold whole
 rw[List.drop_left' rfl]
theorem m5 {b:List Nat}(h:cT b):cT (whole b):=h.app (fc _ _)
theorem IY (s:Nat)(gen:Int)(hg:gen<1)(H:af):W env (.call 11 [.int .i64 gen,.ptr s 0]) H (kX (.bC [.sl .nil [],.int .i64 1]) H):=by
 have e0:dQ .ptr (.ptr s 0) .br=some false:=rfl
 refine W.bA rfl rfl rfl ?_
 simp -implicitDefEqProofs only[K8,op,ef,cl,sq,reduceIte,q5,q6,q7,q9,j1,j2,j3,j4,j5,S1,e0,hg]
theorem Mq (l:List Nat)(hl:l.length≤4294967296)(H:af):∃c H',lT (H++[B.cells []]) 1 1 (.aC H.length 0 0 1) (l.map eB)=some (.aC c 0 l.length 1,H')∧H.length≤c∧H'[c]?=some (.cells (aP eB l))∧Ext H H':=by
 by_cases h0:l=[]
 ·subst h0
  exact⟨H.length,_,rfl,Nat.le_refl _,aE rfl,Ext.rfl'.app _⟩
 obtain⟨t',H',ha,hm,cW⟩:=mU (enc:=eB) (n:=1) (n0:=H.length) (fun _=>rfl) (H:=H++[B.cells []]) (t:=.aC H.length 0 0 1) (l:=[]) (bytes:=1) l (.inr ⟨H.length,rfl,aE rfl,Nat.le_refl _⟩) (by simp) h0 (ga (by simp -implicitDefEqProofs only[List.length_nil];omega))
 rw[List.nil_append]at hm
 rcases hm with⟨h1,_⟩|⟨c,rfl,hc,h0⟩
 ·exact absurd h1 ‹_›
 ·exact⟨c,H',ha,h0,hc,cW.ext H (Nat.le_refl _) (Ext.rfl'.app _)⟩
theorem IZ (k:SK)(l:List Nat)(hl:l.length≤4294967296)(H:af):W env (.call 15 [.sl k (l.map eB)]) H (fun o H'=>Ext H H'∧∃c,H.length≤c∧o=.val (.aC c 0 l.length 1)∧H'[c]?=some (.cells (aP eB l))):=by
 have bD:=sU l
 obtain⟨c,H',ha,hc,hd,hx⟩:=Mq l hl H
 refine W.bA rfl rfl rfl ?_
 have Gs:xv (.aC H.length 0 0 1)=.aC H.length 0 0 1:=rfl
 have aG:(1≠0)=True:=by decide
 simp -implicitDefEqProofs only[Pl,op,ef,cl,sq,reduceIte,q5,q6,q7,q9,j1,j2,j3,j4,j5,S1,bD]
 simp -implicitDefEqProofs only[List.flatten_nil,aG,if_true,op,ef,cl,sq,reduceIte,q5,q6,q7,q9,j1,j2,j3,j4,j5,S1,bD]
 rw[Gs,ha]
 simp -implicitDefEqProofs only[op,ef,cl,sq,reduceIte,q5,q6,q7,q9,j1,j2,j3,j4,j5,S1]
 exact⟨hx,c,hc,rfl,hd⟩
theorem zf (k:SK)(l:List Nat)(hl:l.length≤4294967296)(H:af):W env (.call 15 [.sl k (l.map eB)]) H (fun o H'=>Ext H H'∧o=.val (.sl .arg (l.map eB))) :=
 W.xw (enc:=eB) (n:=1) (l:=l) (fun _=>rfl) (W.use (IZ k l hl H) fun o H' ⟨hx,c,hc,ho,hd⟩=>⟨c,ho,hd,hx.set hc _,rfl⟩)
theorem NT {n:Nat}(h:n<256):IntKind.u32.wrap ((n:Int)*2^(min (24:Int).toNat IntKind.u32.bits))=((16777216*n:Nat):Int):=by
 have e:(min (24:Int).toNat IntKind.u32.bits)=24:=rfl
 rw[e,show((n:Int)*2^24)=((16777216*n:Nat):Int) by omega,wrap32 (by omega)]
theorem NU {n:Nat}(h:n<256):IntKind.u32.wrap ((n:Int)*2^(min (16:Int).toNat IntKind.u32.bits))=((65536*n:Nat):Int):=by
 have e:(min (16:Int).toNat IntKind.u32.bits)=16:=rfl
 rw[e,show((n:Int)*2^16)=((65536*n:Nat):Int) by omega,wrap32 (by omega)]
theorem XD {n:Nat}(h:n<256):IntKind.u32.wrap ((n:Int)*2^(min (8:Int).toNat IntKind.u32.bits))=((256*n:Nat):Int):=by
 have e:(min (8:Int).toNat IntKind.u32.bits)=8:=rfl
 rw[e,show((n:Int)*2^8)=((256*n:Nat):Int) by omega,wrap32 (by omega)]
theorem RJ {a b:Nat}(ha:a<4294967296)(hb:b<4294967296):IntKind.u32.wrap ((BitVec.ofInt IntKind.u32.bits (a:Int) ||| BitVec.ofInt IntKind.u32.bits (b:Int)).toNat:Nat)=((a ||| b:Nat):Int):=by
 have e:(BitVec.ofInt IntKind.u32.bits (a:Int) ||| BitVec.ofInt IntKind.u32.bits (b:Int)).toNat=a ||| b:=WX 32 a b ha hb
 rw[e,wrap32 (Nat.or_lt_two_pow (n:=32) ha hb)]
theorem orA {i a b:Nat}(h:b<2^i):2^i*a ||| b=2^i*a+b:=(Nat.two_pow_add_eq_or_of_lt h a).symm
theorem ad5 {x y:Nat}(hy:y<256):16777216*x ||| 65536*y=16777216*x+65536*y:=orA (i:=24) (a:=x) (b:=65536*y) (by omega)
theorem ad6 {x y z:Nat}(hz:z<256):(16777216*x+65536*y) ||| 256*z=16777216*x+65536*y+256*z:=by
 have:=orA (i:=16) (a:=256*x+y) (b:=256*z) (by omega)
 rwa[show 2^16*(256*x+y)=16777216*x+65536*y by omega]at this
theorem ad7 {x y z w:Nat}(hw:w<256):(16777216*x+65536*y+256*z) ||| w=16777216*x+65536*y+256*z+w:=by
 have:=orA (i:=8) (a:=65536*x+256*y+z) (b:=w) (by omega)
 rwa[show 2^8*(65536*x+256*y+z)=16777216*x+65536*y+256*z by omega]at this
theorem NV {x y:Nat}(hx:x<256)(hy:y<256):IntKind.u32.wrap ((BitVec.ofInt IntKind.u32.bits ((16777216*x:Nat):Int) ||| BitVec.ofInt IntKind.u32.bits ((65536*y:Nat):Int)).toNat:Nat)=((16777216*x+65536*y:Nat):Int):=by
 rw[RJ (by omega) (by omega),ad5 hy]
theorem NW {x y z:Nat}(hx:x<256)(hy:y<256)(hz:z<256):IntKind.u32.wrap ((BitVec.ofInt IntKind.u32.bits ((16777216*x+65536*y:Nat):Int) ||| BitVec.ofInt IntKind.u32.bits ((256*z:Nat):Int)).toNat:Nat)=((16777216*x+65536*y+256*z:Nat):Int):=by
 rw[RJ (by omega) (by omega),ad6 hz]
theorem NX {x y z w:Nat}(hx:x<256)(hy:y<256)(hz:z<256)(hw:w<256):IntKind.u32.wrap ((BitVec.ofInt IntKind.u32.bits ((16777216*x+65536*y+256*z:Nat):Int) ||| BitVec.ofInt IntKind.u32.bits (w:Int)).toNat:Nat)=((16777216*x+65536*y+256*z+w:Nat):Int):=by
 rw[RJ (by omega) (by omega),ad7 hw]
theorem NY {l:List Nat}{n:Nat}(h:l.length=n+4):∃x y z w,l[n]?=some x∧l[n+1]?=some y∧l[n+2]?=some z∧l[n+3]?=some w∧l.drop n=[x,y,z,w]:=by
 obtain⟨x,hx⟩:=bM (l:=l) (i:=n) (by omega)
 obtain⟨y,hy⟩:=bM (l:=l) (i:=n+1) (by omega)
 obtain⟨z,hz⟩:=bM (l:=l) (i:=n+2) (by omega)
 obtain⟨w,hw⟩:=bM (l:=l) (i:=n+3) (by omega)
 refine⟨x,y,z,w,hx,hy,hz,hw,?_⟩
 rw[drop_cons hx,drop_cons hy,drop_cons hz,drop_cons hw,List.drop_eq_nil_of_le (by omega)]
theorem XE (x y z w:Nat):lM 0 [x,y,z,w]=16777216*x+65536*y+256*z+w:=by simp -implicitDefEqProofs only[lM,List.foldl];omega
theorem DG (k:SK)(l:List Nat)(hb:cT l){n:Nat}(hn:l.length=n+4)(hl:l.length≤4294967296)(H:af):W env (.call 27 [.sl k (l.map eB)]) H (kX (.int .u32 (lM 0 (l.drop n):Nat)) H):=by
 obtain⟨x,y,z,w,hx,hy,hz,hw,hd⟩:=NY hn
 have bx:=hb x (List.mem_of_getElem? hx)
 have bY:=hb y (List.mem_of_getElem? hy)
 have bz:=hb z (List.mem_of_getElem? hz)
 have bw:=hb w (List.mem_of_getElem? hw)
 rw[hd,XE]
 have w4:IntKind.i64.wrap ((l.length:Int)-4)=((n:Nat):Int):=by rw[wrap64 (by omega)];omega
 have w3:IntKind.i64.wrap ((l.length:Int)-3)=((n+1:Nat):Int):=by rw[wrap64 (by omega)];omega
 have w2:IntKind.i64.wrap ((l.length:Int)-2)=((n+2:Nat):Int):=by rw[wrap64 (by omega)];omega
 have w1:IntKind.i64.wrap ((l.length:Int)-1)=((n+3:Nat):Int):=by rw[wrap64 (by omega)];omega
 have e8:∀{n x:Nat},l[n]?=some x→dK 1 n (.sl k (l.map eB))=some (.b0 [T.int .u8 (x:Nat)]):=fun h=>dt (e:=eB) (n:=1) (fun _=>rfl) (by decide) (k:=k) h
 have i0:=e8 hx
 have i1:=e8 hy
 have i2:=e8 hz
 have i3:=e8 hw
 have v0:=wrap32 (n:=x) (by omega)
 have v1:=wrap32 (n:=y) (by omega)
 have v2:=wrap32 (n:=z) (by omega)
 have v3:=wrap32 (n:=w) (by omega)
 have s0:=NT bx
 have s1:=NU bY
 have s2:=XD bz
 have o0:=NV bx bY
 have o1:=NW bx bY bz
 have o2:=NX bx bY bz bw
 refine W.bA rfl rfl rfl ?_
 simp -implicitDefEqProofs only[Ps,op,ef,cl,sq,reduceIte,q5,q6,q7,q9,j1,j2,j3,j4,j5,S1,List.length_map,w4,w3,w2,w1,aa,i0,i1,i2,i3,bZ,v0,v1,v2,v3,s0,s1,s2,o0,o1,o2]
theorem pf {α:Type}(e:α→List Nat)(he:∀x,1≤(e x).length)(l:List α):l.length≤(l.flatMap e).length:=by
 induction l with
 | nil=>simp
 | cons x l ih =>
  have:=he x
  simp -implicitDefEqProofs only[List.length_cons,List.flatMap_cons,List.length_append];omega
theorem zg {l:List Nat}(hb:cT l){g:Nat}{L:List Nm}{K:List Kd}(h:pR l=some (g,L,K)):K.length≤l.length∧L.length≤l.length:=by
 have e:=(IV hb h).1
 have h1:=kr g L K
 have h2:=pf jR (fun x=>by unfold jR;rw[List.length_append,aF];omega) L
 have h3:=pf fF (fun x=>by unfold fF;simp -implicitDefEqProofs only[List.length_append,aF];omega) K
 rw[e];omega
theorem AJ {a:Ab}{B:Nat}(hz:ju a B){N:List Nm}(hN:Names a N){ls:List ByteArray}(hL:dN a ls){g:Nat}(h1:1≤g)(h2:g≤9223372036854775807){now:Int}(ht:a7 now)(hNl:N.length≤8000000)(Rn:ls.length≤8000000)
  (bg:(body g (ls.map (jt a)) (N.map (dr a))).length≤2147483647) (k:SK) (hk:k≠.nil) (H:af) :
  W env (.call 17 [.sl k ((whole (body g (ls.map (jt a)) (N.map (dr a)))).map eB),.int .i64 now]) H (fun o H'=>∃b F,o=.val (.bC [.int .i64 g,.ptr b.s 0,.int .i64 0])∧nD H H' b (gv now a) F N.length):=by
 have SN:=hz.back hN hL h1 h2 (by omega) (by omega)
 have cW:=IX (now:=now) hN hL
 have Az:=(hz.w.rest ht).load (oc (now:=now) hN) (mH (now:=now) hL)
 have zt:=Ds (oc (now:=now) hN) (mH (now:=now) hL)
 have elm:ls.map (jt (gv now a))=ls.map (jt a):=rfl
 rw[elm]at Az zt
 have hby:=ji g (ls.map (jt a)) (N.map (dr a))
 have Jk:(N.map (dr a)).length=N.length:=List.length_map _
 have rI:(ls.map (jt a)).length=ls.length:=List.length_map _
 obtain⟨De,Ht⟩:=pd (b:=body g (ls.map (jt a)) (N.map (dr a)))
 have zo:(whole (body g (ls.map (jt a)) (N.map (dr a)))).length=(body g (ls.map (jt a)) (N.map (dr a))).length+4:=by unfold whole;rw[List.length_append,aF]
 refine W.use (AH k (whole (body g (ls.map (jt a)) (N.map (dr a)))) (fun h=>absurd h hk) (m5 hby) (by omega) now (fun _ g' L' K' h=>?_) H) fun o H' hq=>?_
 ·rw[Ht,SN]at h
  simp -implicitDefEqProofs only[Option.some.injEq,Prod.mk.injEq]at h
  obtain⟨_,rfl,rfl⟩:=h
  rw[List.length_map];omega
 ·rcases hq with⟨h,_⟩|⟨_,h,_⟩|⟨_,_,h,_⟩|⟨_,_,g',L',K',h,hq⟩
  ·exact absurd ht h
  ·exact absurd De h
  ·rw[Ht,SN]at h;cases h
  ·rw[Ht,SN]at h
   simp -implicitDefEqProofs only[Option.some.injEq,Prod.mk.injEq]at h
   obtain⟨rfl,rfl,rfl⟩:=h
   rw[cW,zt]at hq
   rcases hq with⟨_,b,F,ho,pv⟩|⟨h,_⟩
   ·rw[List.length_map,List.length_map]at pv
    exact⟨b,F,ho,pv⟩
   ·exact absurd Az h
def kA:ByteArray:=⟨#[97]⟩
def kB:ByteArray:=⟨#[98]⟩
def w1:ByteArray:=⟨#[49]⟩
def w2:ByteArray:=⟨#[50]⟩
def w3:ByteArray:=⟨#[51]⟩
def RK:List xq:=[⟨1,65536,⟨#[]⟩,.arg,[(kA,w1),(kB,w2)],.arg,[kA,kB],0⟩,⟨2,65536,⟨#[]⟩,.arg,[],.arg,[],0⟩]
def XF:List xq:=[⟨1,131072,⟨#[]⟩,.arg,[(kA,w3)],.arg,[kA],0⟩,⟨2,131072,⟨#[]⟩,.arg,[],.arg,[],0⟩]
def NZ:List xq:=RK++XF
theorem ad8:strLt kA kB=true:=by decide +kernel
theorem td:kA≠kB:=by decide
theorem ad9:ni 65536 [(kA,w1),(kB,w2)] [kA,kB]:=by
 refine⟨by decide,cS.1 (by decide +kernel),by decide,fun i hi p hp=>?_⟩
 match i,hi with
 | 0,_=>cases hp;exact⟨fun h=>absurd h (by decide),by simp,by decide⟩
 | 1,_=>cases hp;exact⟨fun _ q hq=>by cases hq;exact ad8,by simp,by decide⟩
theorem aea:ni 131072 [(kA,w3)] [kA]:=by
 refine⟨by decide,cS.1 (by decide +kernel),by decide,fun i hi p hp=>?_⟩
 match i,hi with
 | 0,_=>cases hp;exact⟨fun h=>absurd h (by decide),by simp,by decide⟩
def aL:Ab:=⟨fun m=>if m.1=kA then(if m.2=65536 then some ⟨w1,[kA,kB],0⟩else if m.2=131072 then some ⟨w3,[kA],-1⟩else none)else if m.1=kB∧m.2=65536 then some ⟨w2,[kA,kB],-1⟩else none,
 fun k=>if k=kA then some 131072 else if k=kB then some 65536 else none⟩
def JE:Ab:=⟨fun m=>if m.2=65536 then(if m.1=kA then some ⟨w1,[kA,kB],-1⟩else if m.1=kB then some ⟨w2,[kA,kB],-1⟩else none)else none,fun _=>none⟩
def N0:Ab:=⟨JE.v,fun k=>if k=kA∨k=kB then some 65536 else none⟩
def XG:Ab:=⟨fun m=>if m.1=kA∧m.2=131072 then some ⟨w3,[kA],-1⟩else JE.v m,N0.l⟩
theorem al1:Ab.emp.put 65536 [(kA,w1),(kB,w2)] [kA,kB] 0=JE:=by
 refine ib (fun m=>?_) fun k=>rfl
 simp -implicitDefEqProofs only[Ab.put,Ab.emp,Ab.last,JE,aj,List.find?]
 by_cases h1:m.2=65536
 ·by_cases h2:m.1=kA
  ·simp[h1,h2]
  ·by_cases h3:m.1=kB
   ·simp[h1,h2,h3,td.symm]
   ·simp[h1,h2,h3]
 ·simp[h1]
theorem al2:JE.po 65536 0=N0:=by
 refine ib (fun m=>?_) fun k=>?_
 ·simp -implicitDefEqProofs only[Ab.po,N0,JE,Ab.has,Ab.last]
  by_cases h1:m.2=65536
  ·simp[h1]
  ·simp[h1]
 ·simp -implicitDefEqProofs only[Ab.po,N0,JE,Ab.has,Ab.last]
  by_cases h2:k=kA
  ·simp[h2]
  ·by_cases h3:k=kB
   ·simp[h3,td.symm]
   ·simp[h2,h3]
theorem al3:N0.put 131072 [(kA,w3)] [kA] 0=XG:=by
 refine ib (fun m=>?_) fun k=>rfl
 simp -implicitDefEqProofs only[Ab.put,Ab.last,XG,N0,JE,aj,List.find?]
 by_cases h1:m.2=65536
 ·by_cases h2:m.1=kA
  ·simp[h1,h2]
  ·by_cases h3:m.1=kB
   ·simp[h1,h3,td.symm]
   ·simp[h1,h2,h3]
 ·by_cases h4:m.2=131072
  ·by_cases h2:m.1=kA
   ·simp[h4,h2]
   ·simp[h4,h2]
  ·simp[h1,h4]
theorem al4:XG.po 131072 0=aL:=by
 refine ib (fun m=>?_) fun k=>?_
 ·simp -implicitDefEqProofs only[Ab.po,aL,XG,N0,JE,Ab.has,Ab.last]
  by_cases h2:m.1=kA
  ·by_cases h1:m.2=65536
   ·simp[h1,h2]
   ·by_cases h4:m.2=131072
    ·simp[h4,h2]
    ·simp[h1,h4,h2]
  ·by_cases h3:m.1=kB
   ·by_cases h1:m.2=65536
    ·simp[h1,h3,td.symm]
    ·simp[h1,h3,td.symm]
   ·simp[h2,h3]
 ·simp -implicitDefEqProofs only[Ab.po,aL,XG,N0,JE,Ab.has,Ab.last]
  by_cases h2:k=kA
  ·simp[h2]
  ·by_cases h3:k=kB
   ·simp[h3,td.symm]
   ·simp[h2,h3]
theorem I0:jk Ab.emp NZ=aL:=by
 have t0:a7 0:=⟨by decide,by decide⟩
 have p1:∀a,sZ a 65536 [(kA,w1),(kB,w2)] [kA,kB] 0=a.put 65536 [(kA,w1),(kB,w2)] [kA,kB] 0:=fun a=>if_pos ⟨ad9,t0⟩
 have p2:∀a,sZ a 131072 [(kA,w3)] [kA] 0=a.put 131072 [(kA,w3)] [kA] 0:=fun a=>if_pos ⟨aea,t0⟩
 have c1:∀a,s7 a 65536 0=a.po 65536 0:=fun a=>if_pos ⟨by decide,t0⟩
 have c2:∀a,s7 a 131072 0=a.po 131072 0:=fun a=>if_pos ⟨by decide,t0⟩
 unfold jk NZ RK XF
 simp -implicitDefEqProofs only[List.cons_append,List.nil_append,List.foldl_cons,List.foldl_nil,jj,if_true,show((2:Int)=1)=False by decide,if_false,p1,p2,c1,c2,al1,al2,al3,al4]
def aN:List Nm:=[(kA,65536),(kA,131072),(kB,65536)]
theorem pg:Names aL aN:=by
 refine⟨by decide +kernel,fun m=>?_⟩
 obtain⟨k,n⟩:=m
 simp -implicitDefEqProofs only[aN,aL,Ab.has,List.mem_cons,List.not_mem_nil,or_false,Prod.mk.injEq]
 by_cases h2:k=kA
 ·by_cases h1:n=65536
  ·simp[h1,h2]
  ·by_cases h4:n=131072
   ·simp[h4,h2]
   ·simp[h1,h4,h2,td]
 ·by_cases h3:k=kB
  ·by_cases h1:n=65536
   ·simp[h1,h3,td.symm]
   ·simp[h1,h3,td.symm]
  ·simp[h2,h3]
theorem m9:dN aL [kA,kB]:=by
 refine⟨by decide +kernel,fun k=>?_⟩
 simp -implicitDefEqProofs only[aL,List.mem_cons,List.not_mem_nil,or_false]
 by_cases h2:k=kA
 ·simp[h2]
 ·by_cases h3:k=kB
  ·simp[h3,td.symm]
  ·simp[h2,h3]
theorem aeb (x:Nm):b7 [T.str x.1,T.int .u64 x.2] [T.str x.1,T.int .u64 x.2]=some true:=by simp[b7,jo,fY]
theorem XH (x:Nm):fN [.str,.int] [T.str x.1,T.int .u64 x.2]=true:=rfl
theorem I1 (k k':SK)(l:List ByteArray)(hl:l.length<9223372036854775807)(H:af):W env (.call 63 [.sl k (l.map eS),.sl k' (l.map eS)]) H (kX (.bool true) H):=by
 refine W.bA rfl rfl rfl ?_
 simp -implicitDefEqProofs only[PZ,op,ef,cl,sq,reduceIte,q5,q6,q7,q9,j1,j2,j3,j4,j5,S1,List.length_map]
 refine W.jC [(0,_),(1,_)] (fun (i:Nat) R H'=>H'=H∧R 5=.int .i64 i∧i≤l.length) (fun i=>l.length-i) 0 ⟨rfl,rfl,Nat.zero_le _⟩ ?_
 rintro i R H1⟨rfl,g5,hi⟩
 by_cases aq:i<l.length
 ·obtain⟨x,hx⟩:=bM aq
  have i0:dK 1 i (.sl k (l.map eS))=some (.b0 [.str x]):=dt (e:=eS) (n:=1) (fun _=>rfl) (by decide) (k:=k) hx
  have i1:dK 1 i (.sl k' (l.map eS))=some (.b0 [.str x]):=dt (e:=eS) (n:=1) (fun _=>rfl) (by decide) (k:=k') hx
  have gZ:=aw (show i<9223372036854775807 by omega)
  simp -implicitDefEqProofs only[ai,ah,op,ef,cl,sq,reduceIte,q5,q6,q7,q9,j1,j2,j3,j4,j5,S1,List.length_map,g5,aq,aa,i0,i1,bZ,gZ]
  exact⟨i+1,by omega,rfl,aq⟩
 ·simp -implicitDefEqProofs only[ai,ah,op,ef,cl,sq,reduceIte,q5,q6,q7,q9,j1,j2,j3,j4,j5,S1,List.length_map,g5,aq]
theorem RL (k k':SK)(l:List Nm)(hl:l.length<9223372036854775807)(H:af):W env (.call 21 [.sl k (l.map eW),.sl k' (l.map eW)]) H (kX (.bool true) H):=by
 refine W.bA rfl rfl rfl ?_
 simp -implicitDefEqProofs only[Pq,op,ef,cl,sq,reduceIte,q5,q6,q7,q9,j1,j2,j3,j4,j5,S1,List.length_map]
 refine W.jC [(0,_),(1,_)] (fun (i:Nat) R H'=>H'=H∧R 5=.int .i64 i∧i≤l.length) (fun i=>l.length-i) 0 ⟨rfl,rfl,Nat.zero_le _⟩ ?_
 rintro i R H1⟨rfl,g5,hi⟩
 by_cases aq:i<l.length
 ·obtain⟨x,hx⟩:=bM aq
  have i0:dK 2 i (.sl k (l.map eW))=some (.b0 [.str x.1,.int .u64 x.2]):=dt (e:=eW) (n:=2) (fun _=>rfl) (by decide) (k:=k) hx
  have i1:dK 2 i (.sl k' (l.map eW))=some (.b0 [.str x.1,.int .u64 x.2]):=dt (e:=eW) (n:=2) (fun _=>rfl) (by decide) (k:=k') hx
  have gZ:=aw (show i<9223372036854775807 by omega)
  have L9:∀Hx,nu Hx 2 (.b0 [.str x.1,.int .u64 x.2])=some [.str x.1,.int .u64 x.2]:=fun _=>rfl
  have e1:=aeb x
  have e2:=XH x
  simp -implicitDefEqProofs only[ai,ah,op,ef,cl,sq,reduceIte,q5,q6,q7,q9,j1,j2,j3,j4,j5,S1,List.length_map,g5,aq,aa,i0,i1,L9,e1,e2,gZ]
  exact⟨i+1,by omega,rfl,aq⟩
 ·simp -implicitDefEqProofs only[ai,ah,op,ef,cl,sq,reduceIte,q5,q6,q7,q9,j1,j2,j3,j4,j5,S1,List.length_map,g5,aq]
def XI (st:Bool)(x y:Kd):Prop:=x.key=y.key∧x.id=y.id∧x.value=y.value∧x.keys=y.keys∧(st=true→x.a9=y.a9)
theorem RM (k k':SK)(l m:List Kd)(st:Bool)(Oj:l.length=m.length)(hl:l.length<9223372036854775807)(hs:∀(i:Nat) (x y:Kd),l[i]?=some x→m[i]?=some y→XI st x y)(hk:∀x∈l,x.keys.length<9223372036854775807)(H:af) :
  W env (.call 19 [.sl k (l.map cP),.sl k' (m.map cP),.bool st]) H (fun o H'=>o=.val (.bool true)∧Ext H H'):=by
 refine W.bA rfl rfl rfl ?_
 simp -implicitDefEqProofs only[Po,op,ef,cl,sq,reduceIte,q5,q6,q7,q9,j1,j2,j3,j4,j5,S1,List.length_map,Oj]
 refine W.jC [(0,_),(1,_),(2,_)] (fun (i:Nat) R H'=>At H' (fun H'=>Ext H H')∧R 7=.int .i64 i∧i≤l.length) (fun i=>l.length-i) 0 ⟨.i Ext.rfl',rfl,Nat.zero_le _⟩ ?_
 rintro i R H1⟨dB,g7,hi⟩
 have dB:Ext H H1:=dB
 by_cases aq:i<l.length
 ·obtain⟨x,hx⟩:=bM aq
  obtain⟨y,hy⟩:=bM (l:=m) (i:=i) (by omega)
  have hkx:=hk x (List.mem_of_getElem? hx)
  obtain⟨h1,h2,h3,h4,h5⟩:=hs i x y hx hy
  have Mr:i<m.length:=by omega
  have i0:dK 5 i (.sl k (l.map cP))=some (.b0 [.str x.key,.int .u64 x.id,.str x.value,.sl x.kk (x.keys.map eS),.int .i64 x.a9]):=dt (e:=cP) (n:=5) (fun _=>rfl) (by decide) (k:=k) hx
  have i1:dK 5 i (.sl k' (m.map cP))=some (.b0 [.str x.key,.int .u64 x.id,.str x.value,.sl y.kk (x.keys.map eS),.int .i64 y.a9]):=by
   rw[h1,h2,h3,h4];exact dt (e:=cP) (n:=5) (fun _=>rfl) (by decide) (k:=k') hy
  have gZ:=aw (show i<9223372036854775807 by omega)
  have S4:∀Hx (a b c d e:T),nu Hx 4 (.b0 [a,b,c,d,e])=some [a,b,c,d]:=fun _ _ _ _ _ _=>rfl
  obtain⟨H2,yW⟩:∃H2,H2=H1++[B.cells [.str x.key,.int .u64 x.id,.str x.value,.sl x.kk (x.keys.map eS)]]:=⟨_,rfl⟩
  obtain⟨H3,xn⟩:∃H3,H3=H2++[B.cells [.str x.key,.int .u64 x.id,.str x.value,.sl y.kk (x.keys.map eS)]]:=⟨_,rfl⟩
  have d2:H2[H1.length]?=some (.cells [.str x.key,.int .u64 x.id,.str x.value,.sl x.kk (x.keys.map eS)]):=by rw[yW];exact aE rfl
  have x3:Ext H2 H3:=⟨_,xn⟩
  have d3:=x3.get d2
  have BV:H3[H2.length]?=some (.cells [.str x.key,.int .u64 x.id,.str x.value,.sl y.kk (x.keys.map eS)]):=by rw[xn];exact aE rfl
  have lC:Ext H H3:=dB.trans (Ext.trans ⟨_,yW⟩ x3)
  cases st with
  | false =>
   simp -implicitDefEqProofs only[ai,ah,op,ef,cl,sq,reduceIte,q5,q6,q7,q9,j1,j2,j3,j4,j5,S1,List.length_map,g7,aq,Mr,aa,i0,i1,S4,S2]
   rw[←yW,←xn]
   simp -implicitDefEqProofs only[op,ef,cl,sq,reduceIte,q5,q6,q7,q9,j1,j2,j3,j4,j5,S1,d3,BV]
   refine ae _ _ _ _ _ _ _ _ (I1 x.kk y.kk x.keys hkx _) ?_
   rintro u H4⟨hu,rfl⟩
   cases hu
   simp -implicitDefEqProofs only[op,ef,cl,sq,reduceIte,q5,q6,q7,q9,j1,j2,j3,j4,j5,S1,g7,d3,BV,gZ]
   exact⟨i+1,by omega,.i lC,rfl,aq⟩
  | true =>
   have h5:=h5 rfl
   simp -implicitDefEqProofs only[ai,ah,op,ef,cl,sq,reduceIte,q5,q6,q7,q9,j1,j2,j3,j4,j5,S1,List.length_map,g7,aq,Mr,aa,i0,i1,S4,S2]
   rw[←yW,←xn]
   simp -implicitDefEqProofs only[op,ef,cl,sq,reduceIte,q5,q6,q7,q9,j1,j2,j3,j4,j5,S1,d3,BV]
   refine ae _ _ _ _ _ _ _ _ (I1 x.kk y.kk x.keys hkx _) ?_
   rintro u H4⟨hu,rfl⟩
   cases hu
   simp -implicitDefEqProofs only[op,ef,cl,sq,reduceIte,q5,q6,q7,q9,j1,j2,j3,j4,j5,S1,g7,d3,BV,aa,i0,i1,bZ,h5,gZ]
   exact⟨i+1,by omega,.i lC,rfl,aq⟩
 ·have Mr:¬i<m.length:=by omega
  simp -implicitDefEqProofs only[ai,ah,op,ef,cl,sq,reduceIte,q5,q6,q7,q9,j1,j2,j3,j4,j5,S1,List.length_map,g7,aq,Mr]
  exact dB
theorem DH (H:af):W env (.call 26 []) H (kX (.sl .full (RK.map eO)) H):=by
 refine W.bA rfl rfl rfl ?_
 simp -implicitDefEqProofs only[Pr,op,ef,cl,sq,reduceIte,q5,q6,q7,q9,j1,j2,j3,j4,j5,S1]
 rfl
theorem opx:∀o∈NZ,Mj o:=fun o ho=>by
 simp -implicitDefEqProofs only[NZ,RK,XF,List.cons_append,List.nil_append,List.mem_cons,List.not_mem_nil,or_false]at ho
 rcases ho with rfl|rfl|rfl|rfl<;>exact⟨(fun h=>by cases h),by decide,by decide,by decide⟩
theorem aec:ju aL 100000:=by
 have:=ju.emp.run NZ opx
 rw[I0]at this
 exact this.le (by decide)
theorem XJ (now:Int):aN.map (dr (gv now aL))=[⟨kA,65536,w1,.arg,[kA,kB],now⟩,⟨kA,131072,w3,.arg,[kA],-1⟩,⟨kB,65536,w2,.arg,[kA,kB],-1⟩]:=by
 have n1:(kB=kA)=False:=by simp[td.symm]
 simp -implicitDefEqProofs only[aN,List.map_cons,List.map_nil,dr,gv,aL,Ab.last,n1,if_true,if_false,jg]
 rfl
theorem te:body 1 [] []=[114,97,109,112,1,0,0,0,0,0,0,0,1,0,0,0,0,0,0,0,0]:=by rfl
theorem Ms (l:List Nat):lM 0 (cd 4 (dF l))=dF l:=by
 rw[wH,Nat.mod_eq_of_lt (show dF l<256^4 from wP l)];omega
theorem Mt:Names Ab.emp []:=⟨List.Pairwise.nil,fun m=>by simp[Ab.has,Ab.emp]⟩
theorem I2:dN Ab.emp []:=⟨List.Pairwise.nil,fun m=>by simp[Ab.emp]⟩
set_option maxHeartbeats 4000000 in
theorem RN (H:af):W env (.call 8 []) H (fun o H'=>o=.val (.bool true)∧Ext H H'):=by
 refine W.bA rfl rfl rfl ?_
 simp -implicitDefEqProofs only[ZY,op,ef,cl,sq,reduceIte,q5,q6,q7,q9,j1,j2,j3,j4,j5,S1]
 refine ae _ _ _ _ _ _ _ _ (NQ .nil [] (fun o ho=>by cases ho) (by decide) (by decide) _) ?_
 rintro u H1⟨b1,F1,hu,Y3⟩
 cases hu
 have x1:Ext H H1:=dn Y3.hO
 have a1:mZ H1 b1 Ab.emp F1 0:=Y3.at_
 simp -implicitDefEqProofs only[op,ef,cl,sq,reduceIte,q5,q6,q7,q9,j1,j2,j3,j4,j5,S1]
 refine ae _ _ _ _ _ _ _ _ (DH _) ?_
 rintro u H2⟨hu,rfl⟩
 cases hu
 have bD:=all_map (enc:=eO) (n:=6) (fun _=>rfl) RK
 obtain⟨k3,H3,ha,_,cW⟩:=gC (n0:=H2.length) (H:=H2) (bytes:=88) (k:=.full) (RK.map eO) (XF.map eO) (.inr (.inl rfl)) (Nat.le_refl _) (by simp[XF]) (ga (by decide))
 have lC:Ext H2 H3:=cW.ext H2 (Nat.le_refl _) Ext.rfl'
 have QQ:fP H2 88 .full (RK.map eO) [[T.int .i64 1,.int .u64 131072,.str ⟨#[]⟩,.sl .arg [[.str ⟨#[97]⟩,.str ⟨#[51]⟩]],.sl .arg [[.str ⟨#[97]⟩]],.int .i64 0],[.int .i64 2,.int .u64 131072,.str ⟨#[]⟩,.sl .arg [],.sl .arg [],.int .i64 0]]=some (.sl k3 (NZ.map eO),H3):=ha
 simp -implicitDefEqProofs only[op,ef,cl,sq,reduceIte,q5,q6,q7,q9,j1,j2,j3,j4,j5,S1,bD,QQ]
 refine ae _ _ _ _ _ _ _ _ (NQ k3 NZ opx (by decide) (by decide) _) ?_
 rintro u H4⟨b2,F2,hu,pv2⟩
 cases hu
 rw[I0]at pv2
 have jn:Ext H3 H4:=dn pv2.hO
 have e1:dQ .ptr (.ptr b1.s 0) .br=some false:=rfl
 have e2:dQ .ptr (.ptr b2.s 0) .br=some false:=rfl
 have a1:=(a1.ext lC).ext jn
 obtain⟨W1,RO⟩:∃W1,W1=whole (body 1 [] []):=⟨_,rfl⟩
 have lQ:W env (.call 10 [.int .i64 1,.ptr b1.s 0]) H4 (fun o H'=>Ext H4 H'∧∃k,k≠.nil∧o=.val (.bC [.sl k (W1.map eB),.int .i64 0])):=by
  rw[RO];exact B9 a1 (by decide) (fun k n h=>by cases h) Mt I2 1 ⟨by decide,by decide⟩ (by decide)
 simp -implicitDefEqProofs only[op,ef,cl,sq,reduceIte,q5,q6,q7,q9,j1,j2,j3,j4,j5,S1,e1,e2]
 refine ae _ _ _ _ _ _ _ _ lQ ?_
 rintro u H5⟨fM,k5,_,hu⟩
 cases hu
 have fM:Ext H4 H5:=fM
 have lW:W1.length=25:=by rw[RO];unfold whole;rw[List.length_append,aF,te];rfl
 have bW:cT W1:=by rw[RO];exact m5 (ji _ _ _)
 have g0:W1[0]?=some 114:=by rw[RO];unfold whole;rw[te];rfl
 have Xh:W1[12]?=some 1:=by rw[RO];unfold whole;rw[te];rfl
 have tW:W1.take 21=body 1 [] []:=by rw[RO];unfold whole;exact List.take_left' (by rw[te];rfl)
 have dW:W1.drop 21=cd 4 (dF (body 1 [] [])):=by rw[RO];unfold whole;exact List.drop_left' (by rw[te];rfl)
 have i0:dK 1 0 (.sl k5 (W1.map eB))=some (.b0 [.int .u8 114]):=dt (e:=eB) (n:=1) (fun _=>rfl) (by decide) (k:=k5) g0
 have i12:dK 1 12 (.sl k5 (W1.map eB))=some (.b0 [.int .u8 1]):=dt (e:=eB) (n:=1) (fun _=>rfl) (by decide) (k:=k5) Xh
 have Mu:∀R Hx a,(X.r a).ev R=.sl k5 (W1.map eB)→au R Hx (.gH 1 (.r a) none (some (.c (.int .i64 21))) none)=some (.sl (k5.cut W1.length 0 21) ((W1.take 21).map eB),Hx):=fun R Hx a ha=>by
  have:=ID (Hx:=Hx) (lo:=none) (hi:=some (.c (.int .i64 21))) (a:=0) (b:=21) ha rfl rfl (by decide) (by omega)
  simpa using this
 have n0:cB (.int .i64 0)=some 0:=rfl
 have n1:cB (.int .i64 1)=some 1:=rfl
 have n12:cB (.int .i64 12)=some 12:=rfl
 have c25:((25:Nat):Int)=25:=rfl
 simp -implicitDefEqProofs only[op,ef,cl,sq,reduceIte,q5,q6,q7,q9,j1,j2,j3,j4,j5,S1,List.length_map,lW,c25,n0,n12,i0,i12,bZ,↓Mu]
 refine ae _ _ _ _ _ _ _ _ (DG k5 W1 bW (n:=21) lW (by omega) _) ?_
 rintro u H6⟨hu,rfl⟩
 cases hu
 rw[dW,Ms]
 simp -implicitDefEqProofs only[op,ef,cl,sq,reduceIte,q5,q6,q7,q9,j1,j2,j3,j4,j5,S1,↓Mu]
 rw[tW]
 refine ae _ _ _ _ _ _ _ _ (zf _ (body 1 [] []) (by rw[te];decide) _) ?_
 rintro u H7⟨nn,hu⟩
 cases hu
 have nn:Ext H6 H7:=nn
 simp -implicitDefEqProofs only[op,ef,cl,sq,reduceIte,q5,q6,q7,q9,j1,j2,j3,j4,j5,S1,↓Mu]
 refine ae _ _ _ _ _ _ _ _ (Is .arg (body 1 [] []) (ji _ _ _) (by rw[te];decide) _) ?_
 rintro u H8⟨nE,hu⟩
 cases hu
 have nE:Ext H7 H8:=nE
 simp -implicitDefEqProofs only[op,ef,cl,sq,reduceIte,q5,q6,q7,q9,j1,j2,j3,j4,j5,S1,↓Mu]
 have a2:mZ H8 b2 aL F2 (dM NZ):=((pv2.at_.ext fM).ext nn).ext nE
 have hz:=aec
 obtain⟨K2,Tb⟩:∃K2,K2=body 7 ([kA,kB].map (jt aL)) (aN.map (dr aL)):=⟨_,rfl⟩
 have bg:K2.length≤200000:=by rw[Tb];exact Nat.le_trans (hz.body pg m9 7) (by decide)
 obtain⟨W2,Y4⟩:∃W2,W2=whole K2:=⟨_,rfl⟩
 have lW2:W2.length=K2.length+4:=by rw[Y4];unfold whole;rw[List.length_append,aF]
 have bW2:cT W2:=by rw[Y4,Tb];exact m5 (ji _ _ _)
 have pB:W env (.call 10 [.int .i64 7,.ptr b2.s 0]) H8 (fun o H'=>Ext H8 H'∧∃k,k≠.nil∧o=.val (.bC [.sl k (W2.map eB),.int .i64 0])):=by
  rw[Y4,Tb];exact B9 a2 (by decide) hz.w.L pg m9 7 ⟨by decide,by decide⟩ (by have:=bg;rw[Tb]at this;exact Nat.le_trans this (by decide))
 refine ae _ _ _ _ _ _ _ _ pB ?_
 rintro u H9⟨y7,k9,Xb,hu⟩
 cases hu
 have y7:Ext H8 H9:=y7
 simp -implicitDefEqProofs only[op,ef,cl,sq,reduceIte,q5,q6,q7,q9,j1,j2,j3,j4,j5,S1]
 refine ae _ _ _ _ _ _ _ _ (zf k9 W2 (by omega) _) ?_
 rintro u pq⟨ig,hu⟩
 cases hu
 have ig:Ext H9 pq:=ig
 have t9:a7 9:=⟨by decide,by decide⟩
 have V8:W env (.call 17 [.sl .arg (W2.map eB),.int .i64 9]) pq (fun o H'=>∃b F,o=.val (.bC [.int .i64 7,.ptr b.s 0,.int .i64 0])∧nD pq H' b (gv 9 aL) F aN.length):=by
  rw[Y4,Tb];exact AJ hz pg m9 (g:=7) (by decide) (by decide) t9 (by decide) (by decide) (by have:=bg;rw[Tb]at this;omega) .arg (by simp) _
 simp -implicitDefEqProofs only[op,ef,cl,sq,reduceIte,q5,q6,q7,q9,j1,j2,j3,j4,j5,S1]
 refine ae _ _ _ _ _ _ _ _ V8 ?_
 rintro u xp⟨b3,F3,hu,Ml⟩
 cases hu
 have qK:Ext pq xp:=dn Ml.hO
 have e3:dQ .ptr (.ptr b3.s 0) .br=some false:=rfl
 simp -implicitDefEqProofs only[op,ef,cl,sq,reduceIte,q5,q6,q7,q9,j1,j2,j3,j4,j5,S1,e3]
 refine ae _ _ _ _ _ _ _ _ (Ia Ml.at_ (by decide)) ?_
 rintro u y8⟨n9,S8,l12,_,aee,_,hu⟩
 cases hu
 have n9:Ext xp y8:=n9
 have e12:=aee.uniq (oc (now:=9) pg)
 subst e12
 have eK:aN.map (S0 (gv 9 aL))=[[.str kA,.int .u64 65536,.str w1,.sl .arg [[.str kA],[.str kB]],.int .i64 9],[.str kA,.int .u64 131072,.str w3,.sl .arg [[.str kA]],.int .i64 (-1)],[.str kB,.int .u64 65536,.str w2,.sl .arg [[.str kA],[.str kB]],.int .i64 (-1)]]:=by
  have:=congrArg (List.map cP) (XJ 9)
  rw[List.map_map]at this
  exact this
 rw[eK]
 have wl:IntKind.i64.wrap ((W2.length:Int)-1)=((W2.length-1:Nat):Int):=by rw[wrap64 (by omega)];omega
 have cW:=mF (k:=k9) (l:=W2) (n:=W2.length-1) (by omega)
 simp -implicitDefEqProofs only[op,ef,cl,sq,reduceIte,q5,q6,q7,q9,j1,j2,j3,j4,j5,S1,List.length_map,wl,↓cW]
 refine ae _ _ _ _ _ _ _ _ (zf _ (W2.take (W2.length-1)) (by rw[List.length_take];omega) _) ?_
 rintro u wT⟨lN,hu⟩
 cases hu
 have lN:Ext y8 wT:=lN
 have hl3:(W2.take (W2.length-1)).length≤300000:=by rw[List.length_take];omega
 have DZ:cT (W2.take (W2.length-1)):=bW2.take _
 simp -implicitDefEqProofs only[op,ef,cl,sq,reduceIte,q5,q6,q7,q9,j1,j2,j3,j4,j5,S1]
 refine ae _ _ _ _ _ _ _ _ (AH .arg (W2.take (W2.length-1)) (fun h=>by cases h) DZ (by omega) (-1) (fun _ g L K h=>by
  have h1:=zg (DZ.take _) h
  have h2:((W2.take (W2.length-1)).take ((W2.take (W2.length-1)).length-4)).length≤(W2.take (W2.length-1)).length:=by rw[List.length_take];omega
  omega) _) ?_
 rintro u zs hq
 have nt:¬a7 (-1):=fun h=>by have:=h.1;omega
 rcases hq with⟨_,hu,wU⟩|⟨h,_⟩|⟨h,_⟩|⟨h,_⟩
 rotate_left
 ·exact absurd h nt
 ·exact absurd h nt
 ·exact absurd h nt
 cases hu
 have wU:Ext wT zs:=wU
 have l0:dK 5 0 (.sl S8 [[.str kA,.int .u64 65536,.str w1,.sl .arg [[.str kA],[.str kB]],.int .i64 9],[.str kA,.int .u64 131072,.str w3,.sl .arg [[.str kA]],.int .i64 (-1)],[.str kB,.int .u64 65536,.str w2,.sl .arg [[.str kA],[.str kB]],.int .i64 (-1)]])=some (.b0 [.str kA,.int .u64 65536,.str w1,.sl .arg [[.str kA],[.str kB]],.int .i64 9]):=li0 rfl
 have l1:dK 5 1 (.sl S8 [[.str kA,.int .u64 65536,.str w1,.sl .arg [[.str kA],[.str kB]],.int .i64 9],[.str kA,.int .u64 131072,.str w3,.sl .arg [[.str kA]],.int .i64 (-1)],[.str kB,.int .u64 65536,.str w2,.sl .arg [[.str kA],[.str kB]],.int .i64 (-1)]])=some (.b0 [.str kA,.int .u64 131072,.str w3,.sl .arg [[.str kA]],.int .i64 (-1)]):=li1 rfl
 have e14:dQ .ptr .br .br=some true:=rfl
 have a3:mZ zs b3 (gv 9 aL) F3 aN.length:=((Ml.at_.ext n9).ext lN).ext wU
 have Sz:(w1=⟨#[49]⟩)=True:=eq_true rfl
 simp -implicitDefEqProofs only[op,ef,cl,sq,reduceIte,q5,q6,q7,q9,j1,j2,j3,j4,j5,S1,n0,n1,l0,l1,bZ,Sz]
 refine ae _ _ _ _ _ _ _ _ (wG a3 (by decide) (hz.rest (now:=9) t9).w.L) ?_
 rintro u D5⟨Iz,k15,l15,_,aef,_,hu⟩
 cases hu
 have Iz:Ext zs D5:=Iz
 have e15:=aef.uniq (mH (now:=9) m9)
 subst e15
 have e1:dQ .ptr .br .br=some true:=rfl
 simp -implicitDefEqProofs only[op,ef,cl,sq,reduceIte,q5,q6,q7,q9,j1,j2,j3,j4,j5,S1,e14,List.map_cons,List.map_nil,List.length_cons,List.length_nil]
 exact x1.trans (lC.trans (jn.trans (fM.trans (nn.trans (nE.trans (y7.trans (ig.trans (qK.trans (n9.trans (lN.trans (wU.trans Iz)))))))))))
end Go.Proofs.YtdcpehdijdllpaaGreat.St
end

section
namespace Go.Proofs.YtdcpehdijdllpaaGreat.St
open Go.Rmp Go.Proofs.YtdcpehdijdllpaaGreat.Ir
set_option maxRecDepth 10000
def DR (H:af)(c:Nat)(st:Option (List Nat)):Prop:=∃k r,H[c]?=some (.cells [.sl k (r.map eB),.bool st.isNone])∧r.length≤4294967296∧cT r∧∀l,st=some l→l=r
theorem DR.ext {H H':af}{c:Nat}{st:Option (List Nat)}(h:DR H c st)(hx:Ext H H'):DR H' c st:=by
 obtain⟨k,r,h1,h2⟩:=h
 exact⟨k,r,hx.get h1,h2⟩
theorem DR.hO {H H':af}{c:Nat}{st:Option (List Nat)}{F:Nat→Prop}(h:DR H c st)(hf:a6 F H H')(hc:¬F c):DR H' c st:=by
 obtain⟨k,r,h1,h2⟩:=h
 exact⟨k,r,hf.get h1 hc,h2⟩
theorem DR.lt {H:af}{c:Nat}{st:Option (List Nat)}(h:DR H c st):c<H.length:=by
 obtain⟨k,r,h1,_⟩:=h;exact aQ h1
theorem DR.JB {H:af}{c:Nat}{st:Option (List Nat)}(h:DR H c st):∀l,st=some l→cT l∧l.length≤4294967296:=fun l e=>by
 obtain⟨k,r,_,h2,h3,h4⟩:=h
 rw[h4 l e];exact⟨h3,h2⟩
def DrQ (c:Nat)(t:T)(st:Option (List Nat))(H:af):Out→af→Prop:=fun o H'=>o=.val t∧DR H' c st∧a6 (fun b=>b=c) H H'
def tk (n:Nat):Option (List Nat)→List Nat×Option (List Nat)
 | none=>([],none)
 | some l=>if l.length<n then([],none)else(l.take n,some (l.drop n))
theorem XK {n:Nat}{st:Option (List Nat)}:(tk n st).1.length≤n:=by
 cases st with
 | none=>exact Nat.zero_le _
 | some l =>
  by_cases h:l.length<n
  ·simp -implicitDefEqProofs only[tk,h,if_true];exact Nat.zero_le _
  ·simp -implicitDefEqProofs only[tk,h,if_false];exact List.length_take_le _ _
theorem RQ {n:Nat}{st:Option (List Nat)}(h:∀l,st=some l→cT l):cT (tk n st).1:=by
 cases st with
 | none=>exact fun x hx=>by cases hx
 | some l =>
  by_cases h':l.length<n
  ·simp -implicitDefEqProofs only[tk,h',if_true];exact fun x hx=>by cases hx
  ·simp -implicitDefEqProofs only[tk,h',if_false];exact(h l rfl).take n
theorem I3 (n:Nat)(st:Option (List Nat)):b9 n st=(lM 0 (tk n st).1,(tk n st).2):=by
 cases st with
 | none=>rfl
 | some l =>
  unfold b9 tk pN
  by_cases h:l.length<n
  ·simp -implicitDefEqProofs only[h,if_true];rfl
  ·simp -implicitDefEqProofs only[h,if_false]
theorem RR (st:Option (List Nat))(hb:∀l,st=some l→cT l):cY 4294967295 st=(ue (tk (b9 4 st).1 (b9 4 st).2).1,(tk (b9 4 st).1 (b9 4 st).2).2):=by
 have h0:(⟨#[]⟩:ByteArray)=ue []:=rfl
 cases st with
 | none=>rfl
 | some l =>
  cases h:pN 4 l with
  | none=>simp -implicitDefEqProofs only[cY,pT,b9,h,tk];rfl
  | some x =>
   obtain⟨v,r⟩:=x
   have hv:=(fp (hb l rfl) h).2.1
   have h44:(256:Nat)^4=4294967296:=by decide
   have Bb:¬4294967295<v:=by omega
   by_cases h2:r.length<v
   ·simp -implicitDefEqProofs only[cY,pT,b9,h,Bb,tk,h2,if_true,if_false];rfl
   ·simp -implicitDefEqProofs only[cY,pT,b9,h,Bb,tk,h2,if_false]
theorem AK {H:af}{c:Nat}{st:Option (List Nat)}(h:DR H c st)(n:Nat):W env (.call 84 [.ptr c 0,.int .i64 n]) H (fun o H'=>∃k,o=.val (.sl k ((tk n st).1.map eB))∧DR H' c (tk n st).2∧a6 (fun b=>b=c) H H'):=by
 obtain⟨k,r,h1,h2,h3,h4⟩:=h
 have lc:=aQ h1
 have iA:¬((n:Int)<0):=by omega
 refine W.bA rfl rfl rfl ?_
 cases st with
 | none =>
  simp -implicitDefEqProofs only[Option.isNone_none]at h1
  simp -implicitDefEqProofs only[Gz,op,ef,cl,sq,reduceIte,q5,q6,q7,q9,j1,j2,j3,j4,j5,S1,h1,lc,S2]
  refine⟨.nil,rfl,⟨k,r,bQ lc,h2,h3,fun l e=>by cases e⟩,a6.set (F:=fun b=>b=c) (a6.refl _ _) (.inl rfl) _⟩
 | some l =>
  obtain rfl:=h4 l rfl
  simp -implicitDefEqProofs only[Option.isNone_some]at h1
  by_cases hs:l.length<n
  ·have e:tk n (some l)=([],none):=if_pos hs
   have ff:decide ((n:Int)>(l.length:Int))=true:=by simp;omega
   rw[e]
   simp -implicitDefEqProofs only[Gz,op,ef,cl,sq,reduceIte,q5,q6,q7,q9,j1,j2,j3,j4,j5,S1,h1,iA,List.length_map,ff,lc,S2]
   refine⟨.nil,rfl,⟨k,l,bQ lc,h2,h3,fun l e=>by cases e⟩,a6.set (F:=fun b=>b=c) (a6.refl _ _) (.inl rfl) _⟩
  ·have e:tk n (some l)=(l.take n,some (l.drop n)):=if_neg hs
   have ff:decide ((n:Int)>(l.length:Int))=false:=by simp;omega
   have t1:=mF (k:=k) (l:=l) (n:=n) (by omega)
   have t2:=pb (k:=k) (l:=l) (n:=n) (by omega)
   rw[e]
   simp -implicitDefEqProofs only[Gz,op,ef,cl,sq,reduceIte,q5,q6,q7,q9,j1,j2,j3,j4,j5,S1,h1,iA,List.length_map,ff,↓t1,↓t2,lc,S2]
   refine⟨_,rfl,⟨_,l.drop n,bQ lc,by rw[List.length_drop];omega,h3.drop n,fun l' e=>(Option.some.inj e).symm⟩,a6.set (F:=fun b=>b=c) (a6.refl _ _) (.inl rfl) _⟩
theorem jl {H:af}{c:Nat}{st:Option (List Nat)}(h:DR H c st)(n:Nat)(hn:n≤8):W env (.call 85 [.ptr c 0,.int .i64 n]) H (DrQ c (.int .u64 (b9 n st).1) (b9 n st).2 H):=by
 have C1:=RQ (n:=n) fun l e=>(h.JB l e).1
 have hle:=XK (n:=n) (st:=st)
 rw[I3]
 refine W.bA rfl rfl rfl ?_
 simp -implicitDefEqProofs only[Qe,op,ef,cl,sq,reduceIte,q5,q6,q7,q9,j1,j2,j3,j4,j5,S1]
 refine ae _ _ _ _ _ _ _ _ (AK h n) ?_
 rintro u H1⟨k,hu,hr,hf⟩
 cases hu
 generalize (tk n st).1=lt at *
 simp -implicitDefEqProofs only[op,ef,cl,sq,reduceIte,q5,q6,q7,q9,j1,j2,j3,j4,j5,S1]
 refine W.jC [(5,_)] (fun (i:Nat) R H'=>H'=H1∧R 6=.int .u64 (lM 0 (lt.take i):Nat)∧R 7=.int .i64 i∧i≤lt.length) (fun i=>lt.length-i) 0 ⟨rfl,rfl,rfl,Nat.zero_le _⟩ ?_
 rintro i R H2⟨rfl,g6,g7,hi⟩
 by_cases rv:i<lt.length
 ·obtain⟨x,hx⟩:=bM rv
  have IE:=C1 x (List.mem_of_getElem? hx)
  have ix:dK 1 i (.sl k (lt.map eB))=some (.b0 [.int .u8 (x:Nat)]):=dt (e:=eB) (n:=1) (fun _=>rfl) (by decide) (k:=k) hx
  have gZ:=aw (show i<9223372036854775807 by omega)
  have kF:lM 0 (lt.take i)*256<18446744073709551616:=by
   have h5:=sO (lt.take i) 0 (C1.take i)
   have h6:(lt.take i).length≤7:=by rw[List.length_take];omega
   have h7:256^(lt.take i).length≤256^7:=Nat.pow_le_pow_right (by decide) h6
   have h8:(256:Nat)^7=72057594037927936:=by decide
   omega
  have wx:=cL (n:=x) (by omega)
  have a1:=Xj kF
  have a2:=or8 kF IE
  have n8:¬((8:Int)<0):=by decide
  simp -implicitDefEqProofs only[ai,ah,op,ef,cl,sq,reduceIte,q5,q6,q7,q9,j1,j2,j3,j4,j5,S1,List.length_map,g6,g7,rv,aa,ix,bZ,n8,a1,wx,a2,gZ]
  exact⟨i+1,by omega,by rw[fe hx,y9],rfl,rv⟩
 ·have gR:i=lt.length:=by omega
  rw[gR,List.take_length]at g6
  simp -implicitDefEqProofs only[ai,ah,op,ef,cl,sq,reduceIte,q5,q6,q7,q9,j1,j2,j3,j4,j5,S1,List.length_map,g6,g7,rv]
  exact⟨rfl,hr,hf⟩
theorem xa {H:af}{c:Nat}{st:Option (List Nat)}(h:DR H c st):W env (.call 86 [.ptr c 0]) H (DrQ c (.str (cY 4294967295 st).1) (cY 4294967295 st).2 H):=by
 have hv:(b9 4 st).1<256^4:=wV fun l e=>(h.JB l e).1
 have h4:(256:Nat)^4=4294967296:=by decide
 rw[RR st fun l e=>(h.JB l e).1]
 refine W.bA rfl rfl rfl ?_
 simp -implicitDefEqProofs only[Qf,op,ef,cl,sq,reduceIte,q5,q6,q7,q9,j1,j2,j3,j4,j5,S1]
 refine ae _ _ _ _ _ _ _ _ (jl h 4 (by decide)) ?_
 rintro u H1⟨hu,hr,hf⟩
 cases hu
 have wv:IntKind.i64.wrap (((b9 4 st).1:Nat):Int)=(((b9 4 st).1:Nat):Int):=wrap64 (by omega)
 simp -implicitDefEqProofs only[op,ef,cl,sq,reduceIte,q5,q6,q7,q9,j1,j2,j3,j4,j5,S1,wv]
 refine ae _ _ _ _ _ _ _ _ (AK hr (b9 4 st).1) ?_
 rintro u H2⟨k,hu,tR,ew⟩
 cases hu
 have rJ:=Dz (k:=k) (l:=(tk (b9 4 st).1 (b9 4 st).2).1)
 simp -implicitDefEqProofs only[op,ef,cl,sq,reduceIte,q5,q6,q7,q9,j1,j2,j3,j4,j5,S1,↓rJ]
 exact⟨rfl,tR,hf.trans ew fun b hb=>.inl hb⟩
theorem RS (k:SK)(L:List Nm)(hl:L.length<9223372036854775807)(key:ByteArray)(H:af):W env (.call 87 [.sl k (L.map eW),.str key]) H (kX (.int .u64 ((aj L key).getD 0:Nat)) H):=by
 refine W.bA rfl rfl rfl ?_
 simp -implicitDefEqProofs only[Qg,op,ef,cl,sq,reduceIte,q5,q6,q7,q9,j1,j2,j3,j4,j5,S1]
 refine W.jC [(0,_),(1,_)] (fun (i:Nat) R H'=>H'=H∧R 5=.int .i64 i∧i≤L.length∧aj L key=aj (L.drop i) key) (fun i=>L.length-i) 0 ⟨rfl,rfl,Nat.zero_le _,rfl⟩ ?_
 rintro i R H1⟨rfl,g5,hi,hm⟩
 by_cases aq:i<L.length
 ·obtain⟨x,hx⟩:=bM aq
  have ix:dK 2 i (.sl k (L.map eW))=some (.b0 [.str x.1,.int .u64 x.2]):=dt (e:=eW) (n:=2) (fun _=>rfl) (by decide) (k:=k) hx
  have gZ:=aw (show i<9223372036854775807 by omega)
  rw[drop_cons hx]at hm
  have ld1:∀Hx (a b:T),nu Hx 1 (.b0 [a,b])=some [a]:=fun _ _ _=>rfl
  by_cases hk:x.1=key
  ·have e:aj L key=some x.2:=by rw[hm];simp[aj,hk]
   rw[e]
   simp -implicitDefEqProofs only[ai,ah,op,ef,cl,sq,reduceIte,q5,q6,q7,q9,j1,j2,j3,j4,j5,S1,List.length_map,g5,aq,aa,ix,ld1,bZ,hk]
   rfl
  ·have e:aj L key=aj (L.drop (i+1)) key:=by
    rw[hm]
    have kv:¬key=x.1:=fun h=>hk h.symm
    simp[aj,kv]
   simp -implicitDefEqProofs only[ai,ah,op,ef,cl,sq,reduceIte,q5,q6,q7,q9,j1,j2,j3,j4,j5,S1,List.length_map,g5,aq,aa,ix,ld1,bZ,hk,gZ]
   exact⟨i+1,by omega,rfl,aq,e⟩
 ·have e:aj L key=none:=by rw[hm,List.drop_eq_nil_of_le (by omega)];rfl
  rw[e]
  simp -implicitDefEqProofs only[ai,ah,op,ef,cl,sq,reduceIte,q5,q6,q7,q9,j1,j2,j3,j4,j5,S1,List.length_map,g5,aq]
  rfl
def tz (l:List Nat):Option (Nm×List Nat):=match pT 4294967295 l with
 | none=>none
 | some (k,r)=>match pN 8 r with
  | none=>none
  | some (v,r')=>some ((k,v),r')
theorem aeg (st:Option (List Nat)):nx tz st=(b9 8 (cY 4294967295 st).2).2∧∀l x r,st=some l→tz l=some (x,r)→(cY 4294967295 st).1=x.1∧(b9 8 (cY 4294967295 st).2).1=x.2:=by
 cases st with
 | none=>exact⟨rfl,fun l x r h=>by cases h⟩
 | some l =>
  cases h1:pT 4294967295 l with
  | none =>
   have e:cY 4294967295 (some l)=(⟨#[]⟩,none):=by simp -implicitDefEqProofs only[cY,h1]
   have e2:tz l=none:=by simp -implicitDefEqProofs only[tz,h1]
   rw[e]
   exact⟨by simp -implicitDefEqProofs only[nx,e2];rfl,fun l' x r h h'=>by cases h;rw[e2]at h';cases h'⟩
  | some y =>
   obtain⟨k,r⟩:=y
   have e:cY 4294967295 (some l)=(k,some r):=by simp -implicitDefEqProofs only[cY,h1]
   rw[e]
   cases h2:pN 8 r with
   | none =>
    have e2:tz l=none:=by simp -implicitDefEqProofs only[tz,h1,h2]
    have e3:b9 8 (some r)=(0,none):=by simp -implicitDefEqProofs only[b9,h2]
    exact⟨by simp -implicitDefEqProofs only[nx,e2,e3],fun l' x r h h'=>by cases h;rw[e2]at h';cases h'⟩
   | some z =>
    obtain⟨v,r'⟩:=z
    have e2:tz l=some ((k,v),r'):=by simp -implicitDefEqProofs only[tz,h1,h2]
    have e3:b9 8 (some r)=(v,some r'):=by simp -implicitDefEqProofs only[b9,h2]
    refine⟨by simp -implicitDefEqProofs only[nx,e2,e3],fun l' x r h h'=>?_⟩
    cases h
    rw[e2]at h'
    simp -implicitDefEqProofs only[Option.some.injEq,Prod.mk.injEq]at h'
    obtain⟨rfl,rfl⟩:=h'
    exact⟨rfl,by rw[e3]⟩
def tf {α:Type}(p:List Nat→Option (α×List Nat))(st:Option (List Nat)):Option (List α×List Nat):=match st with
 | none=>none
 | some l=>match pC 4294967295 l with
  | none=>none
  | some (n,r)=>pM p r n
theorem AL {α:Type}(p:List Nat→Option (α×List Nat))(st:Option (List Nat)):∃n hU,n=(qj 4294967295 st).1∧hU=(qj 4294967295 st).2∧n≤4294967295∧(hU=none→n=0)∧tf p st=ze p n hU:=by
 cases st with
 | none=>exact⟨0,none,rfl,rfl,by decide,fun _=>rfl,rfl⟩
 | some l =>
  cases hp:pC 4294967295 l with
  | none =>
   have:qj 4294967295 (some l)=(0,none):=by simp -implicitDefEqProofs only[qj,hp]
   rw[this]
   exact⟨0,none,rfl,rfl,by decide,fun _=>rfl,by simp -implicitDefEqProofs only[tf,hp,ze]⟩
  | some x =>
   obtain⟨v,r⟩:=x
   have:qj 4294967295 (some l)=(v,some r):=by simp -implicitDefEqProofs only[qj,hp]
   rw[this]
   exact⟨v,some r,rfl,rfl,(lu hp).2,(fun h=>by cases h),by simp -implicitDefEqProofs only[tf,hp,ze]⟩
def xr {α:Type}(p:List Nat→Option (α×List Nat))(H:af)(c n:Nat)(st:Option (List Nat))(i:Nat)(xs:List α):Prop :=
 (∃l r,st=some l∧pM p l i=some (xs,r)∧DR H c (some r))∨(DR H c none∧∀l,st=some l→pM p l n=none)
theorem xr.step {α:Type}{p:List Nat→Option (α×List Nat)}{H:af}{c n i:Nat}{hU:Option (List Nat)}{xs:List α}(h:xr p H c n hU i xs)(hi:i<n):∃iE,DR H c iE∧∀H3 II x,DR H3 c II→(∀l,iE=some l→II=nx p (some l)∧∀y r,p l=some (y,r)→x=y)→(iE=none→II=none)→xr p H3 c n hU (i+1) (xs++[x]):=by
 rcases h with⟨l,r,e1,e2,e3⟩|⟨e1,e2⟩
 ·refine⟨some r,e3,fun H3 II x tQ hs _=>?_⟩
  obtain⟨h1,h2⟩:=hs r rfl
  unfold nx at h1
  cases hp:p r with
  | none =>
   simp -implicitDefEqProofs only[hp]at h1
   subst h1
   exact .inr ⟨tQ,fun l' e'=>by
    rw[e1]at e';cases e'
    exact wI (by rw[gO e2,hp]) (show i+1≤n by omega)⟩
  | some y =>
   obtain⟨y,r'⟩:=y
   simp -implicitDefEqProofs only[hp]at h1
   have:=h2 y r' hp
   subst h1;subst this
   exact .inl ⟨l,r',e1,by rw[gO e2,hp],tQ⟩
 ·refine⟨none,e1,fun H3 II x tQ _ hn=>?_⟩
  have:=hn rfl
  subst this
  exact .inr ⟨tQ,e2⟩
theorem xr.wf {α:Type}{p:List Nat→Option (α×List Nat)}{H:af}{c n i:Nat}{hU:Option (List Nat)}{xs:List α}(h:xr p H c n hU i xs):∃iE,DR H c iE∧(iE=none→∀l,hU=some l→pM p l n=none):=by
 rcases h with⟨l,r,e1,e2,e3⟩|⟨e1,e2⟩
 ·exact⟨some r,e3,fun h=>by cases h⟩
 ·exact⟨none,e1,fun _=>e2⟩
theorem xr.end_ {α:Type}{p:List Nat→Option (α×List Nat)}{H:af}{c n:Nat}{st hU:Option (List Nat)}{xs:List α}(h:xr p H c n hU n xs)(hp:tf p st=ze p n hU):(∃r,tf p st=some (xs,r)∧DR H c (some r))∨(tf p st=none∧DR H c none):=by
 rw[hp]
 rcases h with⟨l,r,e1,e2,e3⟩|⟨e1,e2⟩
 ·exact .inl ⟨r,by rw[e1];exact e2,e3⟩
 ·refine .inr ⟨?_,e1⟩
  cases hU with
  | none=>rfl
  | some l=>exact e2 l rfl
def ql (l:List Nat):Option (Kd×List Nat):=match pT 4294967295 l with
 | none=>none
 | some (k,r1)=>match pN 8 r1 with
  | none=>none
  | some (v,r2)=>match pT 4294967295 r2 with
   | none=>none
   | some (w,r3)=>match wX 4294967295 4294967295 r3 with
    | none=>none
    | some (ks,r4)=>some (⟨k,v,w,.arg,ks,-1⟩,r4)
def Tc (st:Option (List Nat)):=cY 4294967295 st
def Td (st:Option (List Nat)):=b9 8 (Tc st).2
def RT (st:Option (List Nat)):=cY 4294967295 (Td st).2
def DI (st:Option (List Nat)):=jM 4294967295 4294967295 (RT st).2
theorem aeh (st:Option (List Nat)):nx ql st=(DI st).2∧(st=none→(DI st).2=none)∧∀l x r,st=some l→ql l=some (x,r)→(Tc st).1=x.key∧(Td st).1=x.id∧(RT st).1=x.value∧(DI st).1=x.keys∧x.kk=.arg∧x.a9=-1:=by
 have n1:b9 8 none=(0,none):=rfl
 have n2:cY 4294967295 none=(⟨#[]⟩,none):=rfl
 have n3:jM 4294967295 4294967295 none=([],none):=rfl
 cases st with
 | none=>exact⟨rfl,fun _=>rfl,fun l x r h=>by cases h⟩
 | some l =>
  unfold DI RT Td Tc
  cases h1:pT 4294967295 l with
  | none =>
   have e:cY 4294967295 (some l)=(⟨#[]⟩,none):=by simp -implicitDefEqProofs only[cY,h1]
   have e2:ql l=none:=by simp -implicitDefEqProofs only[ql,h1]
   rw[e]
   exact⟨by simp -implicitDefEqProofs only[nx,e2,n1,n2,n3],(fun h=>by cases h),fun l' x r h h'=>by cases h;rw[e2]at h';cases h'⟩
  | some y =>
   obtain⟨k,r1⟩:=y
   have e:cY 4294967295 (some l)=(k,some r1):=by simp -implicitDefEqProofs only[cY,h1]
   rw[e]
   cases h2:pN 8 r1 with
   | none =>
    have e2:ql l=none:=by simp -implicitDefEqProofs only[ql,h1,h2]
    have e3:b9 8 (some r1)=(0,none):=by simp -implicitDefEqProofs only[b9,h2]
    exact⟨by simp -implicitDefEqProofs only[nx,e2,e3,n1,n2,n3],(fun h=>by cases h),fun l' x r h h'=>by cases h;rw[e2]at h';cases h'⟩
   | some z =>
    obtain⟨v,r2⟩:=z
    have e3:b9 8 (some r1)=(v,some r2):=by simp -implicitDefEqProofs only[b9,h2]
    simp -implicitDefEqProofs only[e3]
    cases h3:pT 4294967295 r2 with
    | none =>
     have e2:ql l=none:=by simp -implicitDefEqProofs only[ql,h1,h2,h3]
     have e4:cY 4294967295 (some r2)=(⟨#[]⟩,none):=by simp -implicitDefEqProofs only[cY,h3]
     exact⟨by simp -implicitDefEqProofs only[nx,e2,e4,n3],(fun h=>by cases h),fun l' x r h h'=>by cases h;rw[e2]at h';cases h'⟩
    | some w =>
     obtain⟨w,r3⟩:=w
     have e4:cY 4294967295 (some r2)=(w,some r3):=by simp -implicitDefEqProofs only[cY,h3]
     simp -implicitDefEqProofs only[e4]
     cases h4:wX 4294967295 4294967295 r3 with
     | none =>
      have e2:ql l=none:=by simp -implicitDefEqProofs only[ql,h1,h2,h3,h4]
      have e5:jM 4294967295 4294967295 (some r3)=([],none):=by simp -implicitDefEqProofs only[jM,h4]
      exact⟨by simp -implicitDefEqProofs only[nx,e2,e5],(fun h=>by cases h),fun l' x r h h'=>by cases h;rw[e2]at h';cases h'⟩
     | some q =>
      obtain⟨ks,r4⟩:=q
      have e2:ql l=some (⟨k,v,w,.arg,ks,-1⟩,r4):=by simp -implicitDefEqProofs only[ql,h1,h2,h3,h4]
      have e5:jM 4294967295 4294967295 (some r3)=(ks,some r4):=by simp -implicitDefEqProofs only[jM,h4]
      refine⟨by simp -implicitDefEqProofs only[nx,e2,e5],(fun h=>by cases h),fun l' x r h h'=>?_⟩
      cases h
      rw[e2]at h'
      simp -implicitDefEqProofs only[Option.some.injEq,Prod.mk.injEq]at h'
      obtain⟨rfl,rfl⟩:=h'
      simp -implicitDefEqProofs only[e5]
      exact⟨trivial,trivial,trivial,trivial,trivial,trivial⟩
structure Y5 (x:Kd):Prop where
 key:x.key.size≤4294967295
 id:x.id<18446744073709551616
 val:x.value.size≤4294967295
 len:x.keys.length≤4294967295
 keys:∀k∈x.keys,k.size≤4294967295
theorem XL {x:Nm}(r:List Nat)(h1:x.1.size≤4294967295)(h2:x.2<18446744073709551616):tz (jR x++r)=some (x,r):=by
 unfold tz jR
 rw[List.append_assoc,yT _ h1 (by omega)]
 simp only
 rw[sQ _ (show x.2<256^8 from h2)]
theorem XM {ks:List ByteArray}(r:List Nat)(h1:ks.length≤4294967295)(h2:∀k∈ks,k.size≤4294967295):wX 4294967295 4294967295 (sX ks++r)=some (ks,r):=by
 unfold wX sX
 rw[List.append_assoc,Mm _ h1 (by omega)]
 simp only
 exact wO (e:=eT) ks r fun k hk r=>yT r (h2 k hk) (by have:=h2 k hk;omega)
theorem XN {x:Kd}(r:List Nat)(h:Y5 x):ql (fF x++r)=some (raw x,r):=by
 unfold ql fF
 rw[List.append_assoc,yT _ h.key (by have:=h.key;omega)]
 simp only
 rw[List.append_assoc,sQ _ (show x.id<256^8 from h.id)]
 simp only
 rw[List.append_assoc,yT _ h.val (by have:=h.val;omega)]
 simp only
 rw[XM _ h.len h.keys]
 rfl
theorem N1 {α:Type}{p:List Nat→Option (α×List Nat)}{e:α→List Nat}(xs:List α)(r:List Nat)(hx:∀x∈xs,∀r,p (e x++r)=some (x,r))(hl:xs.length≤4294967295):tf p (some (cd 4 xs.length++(xs.flatMap e++r)))=some (xs,r):=by
 unfold tf
 simp only
 rw[Mm _ hl (by omega)]
 simp only
 exact wO xs r hx
theorem Mv {l r:List Nat}{x:Nm}(hb:cT l)(h:tz l=some (x,r)):l=jR x++r∧(x.1.size≤4294967295∧x.2<18446744073709551616)∧cT r:=by
 unfold tz at h
 cases h1:pT 4294967295 l with
 | none=>rw[h1]at h;cases h
 | some y =>
  obtain⟨k,r1⟩:=y
  rw[h1]at h
  simp only at h
  obtain⟨e1,e2,_,e3⟩:=mD hb h1
  cases h2:pN 8 r1 with
  | none=>rw[h2]at h;cases h
  | some z =>
   obtain⟨v,r2⟩:=z
   rw[h2]at h
   simp -implicitDefEqProofs only[Option.some.injEq,Prod.mk.injEq]at h
   obtain⟨rfl,rfl⟩:=h
   obtain⟨f1,f2,f3⟩:=fp e3 h2
   exact⟨by unfold jR;rw[List.append_assoc,←f1];exact e1,⟨e2,f2⟩,f3⟩
theorem Mw {c:Nat}{ks:List ByteArray}{l r:List Nat}(hb:cT l)(h:wX c 4294967295 l=some (ks,r)):l=sX ks++r∧(ks.length≤c∧∀k∈ks,k.size≤4294967295)∧cT r:=by
 unfold wX at h
 cases h1:pC c l with
 | none=>rw[h1]at h;cases h
 | some y =>
  obtain⟨n,r1⟩:=y
  rw[h1]at h
  simp only at h
  obtain⟨e1,e2,e3⟩:=w7 hb h1
  have hl:=qh h
  obtain⟨f1,f2,f3⟩:=sR (e:=eT) (Q:=fun k=>k.size≤4294967295) e3 (fun l x r hb h=>by
   obtain⟨a1,a2,_,a3⟩:=mD hb h;exact⟨a1,a2,a3⟩) h
  exact⟨by unfold sX;rw[List.append_assoc,←f1,hl];exact e1,⟨by omega,f2⟩,f3⟩
theorem Mx {l r:List Nat}{x:Kd}(hb:cT l)(h:ql l=some (x,r)):l=fF x++r∧(Y5 x∧raw x=x)∧cT r:=by
 unfold ql at h
 cases h1:pT 4294967295 l with
 | none=>rw[h1]at h;cases h
 | some y =>
  obtain⟨k,r1⟩:=y
  rw[h1]at h
  simp only at h
  obtain⟨e1,e2,_,e3⟩:=mD hb h1
  cases h2:pN 8 r1 with
  | none=>rw[h2]at h;cases h
  | some z =>
   obtain⟨v,r2⟩:=z
   rw[h2]at h
   simp only at h
   obtain⟨f1,f2,f3⟩:=fp e3 h2
   cases h3:pT 4294967295 r2 with
   | none=>rw[h3]at h;cases h
   | some w =>
    obtain⟨w,r3⟩:=w
    rw[h3]at h
    simp only at h
    obtain⟨g1,g2,_,g3⟩:=mD f3 h3
    cases h4:wX 4294967295 4294967295 r3 with
    | none=>rw[h4]at h;cases h
    | some q =>
     obtain⟨ks,r4⟩:=q
     rw[h4]at h
     simp -implicitDefEqProofs only[Option.some.injEq,Prod.mk.injEq]at h
     obtain⟨rfl,rfl⟩:=h
     obtain⟨a1,a2,a3⟩:=Mw g3 h4
     refine⟨?_,⟨⟨e2,f2,g2,a2.1,a2.2⟩,rfl⟩,a3⟩
     unfold fF
     simp -implicitDefEqProofs only[List.append_assoc]
     rw[←a1,←g1,←f1]
     exact e1
theorem Ch {α:Type}{p:List Nat→Option (α×List Nat)}{e:α→List Nat}{Q:α→Prop}{l r:List Nat}{xs:List α}(hb:cT l)(hp:∀l x r,cT l→p l=some (x,r)→l=e x++r∧Q x∧cT r)(h:tf p (some l)=some (xs,r)):l=cd 4 xs.length++(xs.flatMap e++r)∧(∀x∈xs,Q x)∧xs.length≤4294967295∧cT r:=by
 unfold tf at h
 simp only at h
 cases h1:pC 4294967295 l with
 | none=>rw[h1]at h;cases h
 | some y =>
  obtain⟨n,r1⟩:=y
  rw[h1]at h
  simp only at h
  obtain⟨e1,e2,e3⟩:=w7 hb h1
  have hl:=qh h
  obtain⟨f1,f2,f3⟩:=sR e3 hp h
  exact⟨by rw[←f1,hl];exact e1,f2,by omega,f3⟩
theorem JD.d {x:Kd}(h:JD x):Y5 x:=⟨by have:=h.key;omega,h.id,by have:=h.val;omega,by have:=h.len;omega,fun k hk=>by have:=h.keys k hk;omega⟩
def dR (l:List Nat):Option (Nat×List Nm×List Kd):=match pN 5 l with
 | none=>none
 | some (_,r1)=>match pN 8 r1 with
  | none=>none
  | some (g,r2)=>match tf tz (some r2)with
   | none=>none
   | some (L,r3)=>match tf ql (some r3)with
    | none=>none
    | some (K,r4)=>if r4=[]then some (g,L,K)else none
theorem N2 (g:Nat)(L:List Nm)(K:List Kd):body g L K=cd 5 (1918987632*256+1)++(cd 8 g++(cd 4 L.length++(L.flatMap jR++(cd 4 K.length++(K.flatMap fF++[]))))):=by
 unfold body
 rw[List.append_nil]
 rfl
theorem aei {g:Nat}{L:List Nm}{K:List Kd}(h2:g<18446744073709551616)(hL:∀x∈L,x.1.size≤65535∧x.2<18446744073709551616)(hK:∀x∈K,JD x)(Rn:L.length≤4294967295)(S5:K.length≤4294967295):dR (body g L K)=some (g,L,K.map raw):=by
 unfold dR
 rw[N2,sQ _ (by decide)]
 simp only
 rw[sQ _ (show g<256^8 from h2)]
 simp only
 rw[N1 (e:=jR) L _ (fun x hx r=>XL r (by have:=(hL x hx).1;omega) (hL x hx).2) Rn]
 simp only
 have ef:K.flatMap fF++[]=(K.map raw).flatMap fF++[]:=by
  rw[List.flatMap_map];rfl
 have el:K.length=(K.map raw).length:=(List.length_map _).symm
 rw[ef,el,N1 (e:=fF) (K.map raw) [] (fun x hx r=>by
  obtain⟨y,hy,rfl⟩:=List.mem_map.1 hx
  rw[Cf,XN r (hK y hy).d]) (by rw[←el];exact S5)]
 simp -implicitDefEqProofs only[if_true]
theorem I4 {g:Nat}{L:List Nm}{K:List Kd}{l:List Nat}(hb:cT l)(h:dR l=some (g,L,K)):l.length=(body g L K).length∧g<18446744073709551616∧(∀x∈L,x.1.size≤4294967295∧x.2<18446744073709551616)∧(∀x∈K,Y5 x∧raw x=x)∧L.length≤l.length∧K.length≤l.length:=by
 unfold dR at h
 cases h1:pN 5 l with
 | none=>rw[h1]at h;cases h
 | some y =>
  obtain⟨f,r1⟩:=y
  rw[h1]at h
  simp only at h
  obtain⟨e1,_,b1⟩:=fp hb h1
  cases h2:pN 8 r1 with
  | none=>rw[h2]at h;cases h
  | some y =>
   obtain⟨g',r2⟩:=y
   rw[h2]at h
   simp only at h
   obtain⟨e2,hg,b2⟩:=fp b1 h2
   cases h3:tf tz (some r2)with
   | none=>rw[h3]at h;cases h
   | some y =>
    obtain⟨L',r3⟩:=y
    rw[h3]at h
    simp only at h
    obtain⟨f1,f2,f3,f4⟩:=Ch (e:=jR) b2 (fun l x r hb h=>Mv hb h) h3
    cases h4:tf ql (some r3)with
    | none=>rw[h4]at h;cases h
    | some y =>
     obtain⟨K',r4⟩:=y
     rw[h4]at h
     simp only at h
     obtain⟨q1,q2,q3,q4⟩:=Ch (e:=fF) f4 (fun l x r hb h=>Mx hb h) h4
     split at h
     ·rename_i h5
      simp -implicitDefEqProofs only[Option.some.injEq,Prod.mk.injEq]at h
      obtain⟨rfl,rfl,rfl⟩:=h
      subst h5
      have hl:l.length=(body g' L' K').length:=by
       rw[e1,e2,f1,q1,N2]
       simp -implicitDefEqProofs only[List.length_append,aF]
      have h1:=kr g' L' K'
      have h2:=pf jR (fun x=>by unfold jR;rw[List.length_append,aF];omega) L'
      have h3:=pf fF (fun x=>by unfold fF;simp -implicitDefEqProofs only[List.length_append,aF];omega) K'
      exact⟨hl,hg,f2,q2,by omega,by omega⟩
     ·cases h
def lk (L:List Nm)(k:ByteArray):Nat:=(aj L k).getD 0
def uf (now:Int)(L:List Nm)(x:Kd):Kd:={ x with a9:=if x.id<lk L x.key then now else -1 }
theorem RU {L:List Nm}(h:gh L)(k:ByteArray):AG L k=lk L k:=by
 have fH:(L.map (·.1)).Nodup:=h.nd
 unfold lk
 cases e:aj L k with
 | none=>exact re L 0 fun x hx e'=>cz.1 e (List.mem_map.2 ⟨x,hx,e'⟩)
 | some n=>exact w9 L 0 fH (kj e)
theorem xb {L:List Nm}(h:gh L)(now:Int)(K:List Kd):K.map (uf now L)=K.map (nq now L):=List.map_congr_left fun x _=>by
 unfold uf nq;rw[RU h]
theorem I5 {L:List Nm}{K:List Kd}{now:Int}:cg (K.map (uf now L)) L↔cg (K.map (nq now L)) L :=
 ⟨fun h=>by rw[←xb h.1];exact h,fun h=>by rw[xb h.1];exact h⟩
theorem Ci {ks:List ByteArray}(h:gb ks):∀k∈ks,k.size≤65535:=fun k hk=>by
 have:=cS.2 h
 simp -implicitDefEqProofs only[gU,Bool.and_eq_true,List.all_eq_true,decide_eq_true_eq]at this
 exact this.1.1.2 k hk
theorem I6 {L:List Nm}{K:List Kd}{now:Int}(h:cg (K.map (nq now L)) L)(hi:∀x∈K,x.id<18446744073709551616):(∀x∈K,JD x)∧∀x∈L,x.1.size≤65535:=by
 obtain⟨_,_,h3,h4⟩:=h
 have hk:∀x∈K,JD x:=fun x hx=>by
  obtain⟨_,g2,g3,g4,_⟩:=h3 _ (List.mem_map.2 ⟨x,hx,rfl⟩)
  exact⟨Ci g2 _ g3,hi x hx,g4,g2.2.2,Ci g2⟩
 refine⟨hk,fun e he=>?_⟩
 obtain⟨x,hx,rfl⟩:=h4 e he
 obtain⟨y,hy,rfl⟩:=List.mem_map.1 hx
 exact(hk y hy).key
def vt (l:List Nat)(now:Int)(g:Nat)(L:List Nm)(K:List Kd):Prop:=dR (l.take (l.length-4))=some (g,L,K)∧cg (K.map (nq now L)) L∧(1≤g∧g≤9223372036854775807)∧whole (body g L K)=l
def XO (l:List Nat)(now:Int)(g:Nat)(L:List Nm)(K:List Kd):Prop:=pR (l.take (l.length-4))=some (g,L,K)∧cg (K.map (nq now L)) L
theorem XP {K:List Kd}(h:∀x∈K,raw x=x):K.map raw=K:=(List.map_congr_left h).trans (List.map_id _)
theorem xc {l:List Nat}(h:eZ l):whole (l.take (l.length-4))=l:=by
 unfold whole
 rw[h.2,List.take_append_drop]
theorem xd {l:List Nat}(hb:cT l)(hs:eZ l){now:Int}{g:Nat}{L:List Nm}{K:List Kd}(hl:l.length≤2147483647):vt l now g L K↔XO l now g L K:=by
 have C1:=hb.take (l.length-4)
 have Sx:(l.take (l.length-4)).length≤l.length:=by rw[List.length_take];omega
 constructor
 ·rintro⟨h1,h2,h3,h4⟩
  obtain⟨_,i2,i3,i4,i5,i6⟩:=I4 C1 h1
  obtain⟨k1,k2⟩:=I6 h2 fun x hx=>(i4 x hx).1.id
  refine⟨?_,h2⟩
  have e:l.take (l.length-4)=body g L K:=by rw[←h4];exact pd.2
  rw[e,XC h3.1 h3.2 (fun x hx=>⟨k2 x hx,(i3 x hx).2⟩) k1 (by omega) (by omega),XP fun x hx=>(i4 x hx).2]
 ·rintro⟨h1,h2⟩
  obtain⟨i1,i2,i3,i4,i5,i6⟩:=IV C1 h1
  refine⟨?_,h2,i2,?_⟩
  ·rw[i1,aei (by omega) i3 (fun x hx=>(i4 x hx).1) (by omega) (by omega),XP fun x hx=>(i4 x hx).2]
  ·rw[←i1];exact xc hs
theorem tg {l:List Nat}(hb:cT l){n:Nat}(hn:l.length=n+4):eZ l↔lM 0 (l.drop n)=dF (l.take n):=by
 have e:l.length-4=n:=by omega
 have hd:(l.drop n).length=4:=by rw[List.length_drop];omega
 have hnm:=AE (l.drop n) (hb.drop n)
 rw[hd]at hnm
 unfold eZ
 rw[e]
 constructor
 ·rintro⟨_,h⟩
  rw[←h,wH,Nat.mod_eq_of_lt (show dF (l.take n)<256^4 from wP _)];omega
 ·intro h
  exact⟨by omega,by rw[←h];exact hnm⟩
def qm (l:List Nat)(now:Int)(H:af):Out→af→Prop:=fun o H' =>
 (¬a7 now∧o=.val (.bC [.int .i64 0,.br,.int .i64 1])∧Ext H H') ∨
 (a7 now∧¬eZ l∧o=.val (.bC [.int .i64 0,.br,.int .i64 90])∧Ext H H') ∨
 (a7 now∧eZ l∧(∀g L K,¬vt l now g L K)∧o=.val (.bC [.int .i64 0,.br,.int .i64 2])∧Ext H H') ∨
 (a7 now∧eZ l∧∃g L K p,vt l now g L K∧o=.val (.bC [.int .i64 g,.ptr p 0,.int .i64 0])∧RP H H' p (K.map (nq now L)) L)
theorem I7 {st:Option (List Nat)}(hb:∀l,st=some l→cT l):qj 4294967295 st=b9 4 st:=by
 cases st with
 | none=>rfl
 | some l =>
  cases h:pN 4 l with
  | none=>simp -implicitDefEqProofs only[qj,pC,b9,h]
  | some x =>
   obtain⟨v,r⟩:=x
   have hv:=(fp (hb l rfl) h).2.1
   have Bb:¬4294967295<v:=by
    have:(256:Nat)^4=4294967296:=by decide
    omega
   simp -implicitDefEqProofs only[qj,pC,b9,h,Bb,if_false]
theorem I8 {n:Nat}(h:9223372036854775808≤n)(h2:n<18446744073709551616):IntKind.i64.wrap (n:Int)<1:=by
 unfold IntKind.wrap
 simp -implicitDefEqProofs only[IntKind.signed,IntKind.bits]
 simp
 omega
theorem dm0 {α:Type}{p:List Nat→Option (α×List Nat)}{H:af}{c n:Nat}{st:Option (List Nat)}(h:DR H c st):xr p H c n st 0 []:=by
 cases st with
 | none=>exact .inr ⟨h,fun l h=>by cases h⟩
 | some l=>exact .inl ⟨l,l,rfl,rfl,h⟩
theorem My {a b c:af}{x:Nat}(h:a6 (fun b=>b=x) a b)(h':a6 (fun b=>b=x) b c):a6 (fun b=>b=x) a c:=h.trans h' fun _ hb=>.inl hb
theorem I9 {K:List Kd}{x:Kd}(h:x∈K):x.keys.length≤(K.flatMap fF).length:=by
 have h1:=pf eT (fun x=>by rw[dE];omega) x.keys
 have h2:(fF x).length≤(K.flatMap fF).length:=by
  obtain⟨s,t,rfl⟩:=List.append_of_mem h
  simp -implicitDefEqProofs only[List.flatMap_append,List.flatMap_cons,List.length_append];omega
 have h3:x.keys.length≤(fF x).length:=by
  unfold fF sX
  simp -implicitDefEqProofs only[List.length_append];omega
 omega
theorem Ja (g:Nat)(L:List Nm)(K:List Kd)(f:Kd→Kd)(hf:∀x,fF (f x)=fF x):body g L (K.map f)=body g L K:=by
 unfold body
 rw[List.length_map,List.flatMap_map]
 have:(K.flatMap fun a=>fF (f a))=K.flatMap fF:=by
  rw[List.flatMap_def,List.flatMap_def]
  exact congrArg List.flatten (List.map_congr_left fun x _=>hf x)
 rw[this]
theorem nxT (m:Nat)(st:Option (List Nat)):nx (pT m) st=(cY m st).2∧∀l x r,st=some l→pT m l=some (x,r)→(cY m st).1=x:=by
 cases st with
 | none=>exact⟨rfl,fun l x r h=>by cases h⟩
 | some l =>
  cases h:pT m l with
  | none=>exact⟨by simp -implicitDefEqProofs only[nx,cY,h],fun l' x r h1 h2=>by cases h1;rw[h]at h2;cases h2⟩
  | some y =>
   obtain⟨s,r⟩:=y
   exact⟨by simp -implicitDefEqProofs only[nx,cY,h],fun l' x r h1 h2=>by cases h1;rw[h]at h2;cases h2;simp -implicitDefEqProofs only[cY,h]⟩
theorem RW (st:Option (List Nat)):jM 4294967295 4294967295 st=match tf (pT 4294967295) st with
  | none=>([],none)
  | some (v,r)=>(v,some r):=by
 cases st<;>rfl
theorem aek {n0:Nat}{H H':af}{k:SK}(h:fK n0 H k){F:Nat→Prop}(hf:a6 F H H')(hF:∀t,n0≤t→t<H.length→¬F t):fK n0 H' k:=by
 rcases h with h|h|⟨t,e,h,h1,h2⟩
 ·exact .inl h
 ·exact .inr (.inl h)
 ·exact .inr (.inr ⟨t,e,h,h1,hf.get h2 (hF t h1 (aQ h2))⟩)
theorem XQ (bd:List Nat):dR bd=match tf tz (b9 8 (b9 5 (some bd)).2).2 with
  | none=>none
  | some (L,r3)=>match tf ql (some r3)with
   | none=>none
   | some (K,r4)=>if r4=[]then some ((b9 8 (b9 5 (some bd)).2).1,L,K)else none:=by
 unfold dR
 cases h1:pN 5 bd with
 | none =>
  have e:b9 5 (some bd)=(0,none):=by simp -implicitDefEqProofs only[b9,h1]
  rw[e];rfl
 | some x =>
  obtain⟨f,r1⟩:=x
  have e:b9 5 (some bd)=(f,some r1):=by simp -implicitDefEqProofs only[b9,h1]
  rw[e]
  simp only
  cases h2:pN 8 r1 with
  | none =>
   have e:b9 8 (some r1)=(0,none):=by simp -implicitDefEqProofs only[b9,h2]
   rw[e];rfl
  | some x =>
   obtain⟨g,r2⟩:=x
   have e:b9 8 (some r1)=(g,some r2):=by simp -implicitDefEqProofs only[b9,h2]
   first
    | (rw[e];rfl)
    | rw[e]
set_option maxHeartbeats 8000000 in
theorem ph (k:SK)(l:List Nat)(hb:cT l)(hl:l.length≤8000000)(now:Int)(H:af):W env (.call 47 [.sl k (l.map eB),.int .i64 now]) H (qm l now H):=by
 refine W.bA rfl rfl rfl ?_
 by_cases ht:¬a7 now
 ·have hd:now<0∨(¬now<0∧now>1099511627776):=by unfold a7 at ht;omega
  rcases hd with h1|⟨h1,h2⟩
  ·simp -implicitDefEqProofs only[C5,op,ef,cl,sq,reduceIte,q5,q6,q7,q9,j1,j2,j3,j4,j5,S1,h1]
   exact .inl ⟨ht,rfl,Ext.rfl'⟩
  ·simp -implicitDefEqProofs only[C5,op,ef,cl,sq,reduceIte,q5,q6,q7,q9,j1,j2,j3,j4,j5,S1,h1,h2]
   exact .inl ⟨ht,rfl,Ext.rfl'⟩
 have ht:a7 now:=Classical.not_not.1 ht
 have t1:¬now<0:=by unfold a7 at ht;omega
 have t2:¬now>1099511627776:=by unfold a7 at ht;omega
 by_cases hlen:l.length<4
 ·have w4:IntKind.i64.wrap ((l.length:Int)-4)=(l.length:Int)-4:=wrap64 (by omega)
  have e:decide ((l.length:Int)-4<0)=true:=by simp;omega
  simp -implicitDefEqProofs only[C5,op,ef,cl,sq,reduceIte,q5,q6,q7,q9,j1,j2,j3,j4,j5,S1,t1,t2,List.length_map,w4,e]
  exact .inr (.inl ⟨ht,fun h=>by have:=h.1;omega,rfl,Ext.rfl'⟩)
 obtain⟨n,hn⟩:∃n,l.length=n+4:=⟨l.length-4,by omega⟩
 have w4:IntKind.i64.wrap ((l.length:Int)-4)=(n:Int):=by rw[wrap64 (by omega)];omega
 have e:¬((n:Int)<0):=by omega
 obtain⟨x,y,z,w,hx,hy,hz,hw,hd⟩:=NY hn
 have bx:=hb x (List.mem_of_getElem? hx)
 have bY:=hb y (List.mem_of_getElem? hy)
 have bz:=hb z (List.mem_of_getElem? hz)
 have bw:=hb w (List.mem_of_getElem? hw)
 have e8:∀{n x:Nat},l[n]?=some x→dK 1 n (.sl k (l.map eB))=some (.b0 [T.int .u8 (x:Nat)]):=fun h=>dt (e:=eB) (n:=1) (fun _=>rfl) (by decide) (k:=k) h
 have i0:=e8 hx
 have i1:=e8 hy
 have i2:=e8 hz
 have i3:=e8 hw
 have a1:IntKind.i64.wrap ((n:Int)+1)=((n+1:Nat):Int):=by rw[wrap64 (by omega)];omega
 have a2:IntKind.i64.wrap ((n:Int)+2)=((n+2:Nat):Int):=by rw[wrap64 (by omega)];omega
 have a3:IntKind.i64.wrap ((n:Int)+3)=((n+3:Nat):Int):=by rw[wrap64 (by omega)];omega
 have v0:=wrap32 (n:=x) (by omega)
 have v1:=wrap32 (n:=y) (by omega)
 have v2:=wrap32 (n:=z) (by omega)
 have v3:=wrap32 (n:=w) (by omega)
 have s0:=NT bx
 have s1:=NU bY
 have s2:=XD bz
 have o0:=NV bx bY
 have o1:=NW bx bY bz
 have o2:=NX bx bY bz bw
 have hv:16777216*x+65536*y+256*z+w=lM 0 (l.drop n):=by rw[hd,XE]
 rw[hv]at o2
 have cW:=mF (k:=k) (l:=l) (n:=n) (by omega)
 simp -implicitDefEqProofs only[C5,op,ef,cl,sq,reduceIte,q5,q6,q7,q9,j1,j2,j3,j4,j5,S1,t1,t2,List.length_map,w4,e,a1,a2,a3,aa,i0,i1,i2,i3,bZ,v0,v1,v2,v3,s0,s1,s2,o0,o1,o2,↓cW]
 refine ae _ _ _ _ _ _ _ _ (Iu _ (l.take n) (hb.take n) (by rw[List.length_take];omega) _) ?_
 rintro u H1⟨hu,rfl⟩
 cases hu
 by_cases zt:eZ l
 rotate_left
 ·have bF:((lM 0 (l.drop n):Int) != (dF (l.take n):Int))=true:=by
   have h1:¬lM 0 (l.drop n)=dF (l.take n):=fun h=>zt ((tg hb hn).2 h)
   simp -implicitDefEqProofs only[bne_iff_ne,ne_eq];omega
  simp -implicitDefEqProofs only[op,ef,cl,sq,reduceIte,q5,q6,q7,q9,j1,j2,j3,j4,j5,S1,aa,i0,i1,i2,i3,bZ,↓cW,bF]
  exact .inr (.inl ⟨ht,zt,rfl,Ext.rfl'⟩)
 have heq:((lM 0 (l.drop n):Int) != (dF (l.take n):Int))=false:=by
  have h1:=(tg hb hn).1 zt
  rw[h1];simp
 obtain⟨bd,JC⟩:∃bd,bd=l.take n:=⟨_,rfl⟩
 have hq:l.take (l.length-4)=bd:=by rw[JC,hn];rfl
 have Nn:cT bd:=by rw[JC];exact hb.take n
 have kH:bd.length≤8000000:=by rw[JC,List.length_take];omega
 have Dh:=cW
 rw[←JC]at Dh heq ⊢
 have bad:∀{H':af},Ext H1 H'→(∀g L K,dR bd=some (g,L,K)→cg (K.map (nq now L)) L→(1≤g∧g≤9223372036854775807)→whole (body g L K)=l→False)→qm l now H1 (.val (.bC [.int .i64 0,.br,.int .i64 2])) H':=fun hx hp=>.inr (.inr (.inl ⟨ht,zt,fun g L K h=>hp g L K (by have:=h.1;rw[hq]at this;exact this) h.2.1 h.2.2.1 h.2.2.2,rfl,hx⟩))
 obtain⟨H2,yW⟩:∃H2,H2=H1++[B.cells [.sl (k.cut l.length 0 n) (bd.map eB),.bool false]]:=⟨_,rfl⟩
 have jc:Ext H1 H2:=⟨_,yW⟩
 have r2:DR H2 H1.length (some bd):=⟨_,bd,by rw[yW];exact aE rfl,by omega,Nn,fun l' e=>(Option.some.inj e).symm⟩
 simp -implicitDefEqProofs only[op,ef,cl,sq,reduceIte,q5,q6,q7,q9,j1,j2,j3,j4,j5,S1,aa,i0,i1,i2,i3,bZ,↓Dh,heq]
 rw[←yW]
 refine ae _ _ _ _ _ _ _ _ (AK r2 5) ?_
 rintro u H3⟨k3,hu,r3,f3⟩
 cases hu
 have lC:=lE jc f3 (Nat.le_refl _)
 simp -implicitDefEqProofs only[op,ef,cl,sq,reduceIte,q5,q6,q7,q9,j1,j2,j3,j4,j5,S1]
 refine ae _ _ _ _ _ _ _ _ (jl r3 8 (by decide)) ?_
 rintro u H4⟨hu,r4,f4⟩
 cases hu
 have jn:=lE lC f4 (Nat.le_refl _)
 obtain⟨g,hg⟩:∃g,g=(b9 8 (tk 5 (some bd)).2).1:=⟨_,rfl⟩
 obtain⟨Te,XR⟩:∃Te,Te=(b9 8 (tk 5 (some bd)).2).2:=⟨_,rfl⟩
 have ael:g<18446744073709551616:=by rw[hg];exact wV (n:=8) fun l e=>(r3.JB l e).1
 rw[←XR]at r4
 rw[←hg]
 obtain⟨gi,Y6⟩:∃gi,IntKind.i64.wrap (g:Int)=gi:=⟨_,rfl⟩
 simp -implicitDefEqProofs only[op,ef,cl,sq,reduceIte,q5,q6,q7,q9,j1,j2,j3,j4,j5,S1,Y6]
 refine ae _ _ _ _ _ _ _ _ (jl r4 4 (by decide)) ?_
 rintro u H5⟨hu,r5,f5⟩
 cases hu
 have fM:=lE jn f5 (Nat.le_refl _)
 obtain⟨n1,st5,TT,XS,ajq,ajr,aen⟩:=AL tz Te
 rw[I7 fun l e=>(r4.JB l e).1]at TT XS
 rw[←XS]at r5
 rw[←TT]
 have Ru:xr tz H5 H1.length n1 st5 0 []:=dm0 r5
 have lc5:=r5.lt
 simp -implicitDefEqProofs only[op,ef,cl,sq,reduceIte,q5,q6,q7,q9,j1,j2,j3,j4,j5,S1]
 refine W.dV 0 [(0,_),(1,_),(8,_),(9,_)] (fun (i:Nat) R H'=>At H' (fun H'=>∃kk xs,R 10=.sl kk (xs.map eW)∧fK H5.length H' kk∧xs.length=i∧xr tz H' H1.length n1 st5 i xs∧a6 (fun b=>b=H1.length) H5 H')∧R 11=.int .u64 ((n1-i:Nat):Int)∧i≤n1) (fun i=>n1-i) 0
  (fun R H'=>At H' (fun H'=>∃kk xs,R 10=.sl kk (xs.map eW)∧xs.length≤n1∧xr tz H' H1.length n1 st5 n1 xs∧a6 (fun b=>b=H1.length) H5 H')) ⟨.i ⟨.nil,[],rfl,ft _ _,rfl,Ru,a6.refl _ _⟩,rfl,Nat.zero_le _⟩ ?_ ?_
 ·rintro i R H6⟨⟨kk,xs,ub,kx,zm,oH,Jw⟩,Ar,hi⟩
  obtain⟨Rw,IJ,jh⟩:=oH.wf
  have RX:=IJ
  obtain⟨kw,rw',dw,_,_,hw4⟩:=IJ
  by_cases aq:i<n1
  rotate_left
  ·have gR:i=n1:=by omega
   subst gR
   have e:decide (((i-i:Nat):Int)>0)=false:=by simp
   simp -implicitDefEqProofs only[ai,ah,op,ef,cl,sq,reduceIte,q5,q6,q7,q9,j1,j2,j3,j4,j5,S1,ub,Ar,e,cC]
   exact .i ⟨kk,xs,rfl,by omega,oH,Jw⟩
  have e:decide (((n1-i:Nat):Int)>0)=true:=by simp;omega
  cases Rw with
  | none =>
   simp -implicitDefEqProofs only[Option.isNone_none]at dw
   simp -implicitDefEqProofs only[ai,ah,op,ef,cl,sq,reduceIte,q5,q6,q7,q9,j1,j2,j3,j4,j5,S1,ub,Ar,e,dw,cC]
   exact .i ⟨kk,xs,rfl,by omega,.inr ⟨RX,jh rfl⟩,Jw⟩
  | some lw =>
   simp -implicitDefEqProofs only[Option.isNone_some]at dw
   obtain⟨tw,hr6,bN⟩:=oH.step aq
   obtain⟨q1,q2⟩:=aeg tw
   simp -implicitDefEqProofs only[ai,ah,op,ef,cl,sq,reduceIte,q5,q6,q7,q9,j1,j2,j3,j4,j5,S1,ub,Ar,e,dw]
   refine ae _ _ _ _ _ _ _ _ (xa hr6) ?_
   rintro u H7⟨hu,r7,f7⟩
   cases hu
   simp -implicitDefEqProofs only[op,ef,cl,sq,reduceIte,q5,q6,q7,q9,j1,j2,j3,j4,j5,S1,ub]
   refine ae _ _ _ _ _ _ _ _ (jl r7 8 (by decide)) ?_
   rintro u H8⟨hu,r8,f8⟩
   cases hu
   obtain⟨y,hy⟩:∃y:Nm,y=((cY 4294967295 tw).1,(b9 8 (cY 4294967295 tw).2).1):=⟨_,rfl⟩
   have y1:(cY 4294967295 tw).1=y.1:=by rw[hy]
   have y2:(b9 8 (cY 4294967295 tw).2).1=y.2:=by rw[hy]
   rw[y1,y2]
   have Rx:=fK.hO kx (My f7 f8) (fun t ht=>by omega)
   have bD:=all_map (enc:=eW) (n:=2) (fun _=>rfl) xs
   obtain⟨k9,H9,ha,Xb,hs9⟩:=gC (bytes:=24) (xs.map eW) [eW y] Rx (Nat.le_trans Jw.1 (My f7 f8).1) (by simp) (ga (by simp -implicitDefEqProofs only[List.length_map,List.length_cons,List.length_nil];omega))
   have vA:fP H8 24 kk (xs.map eW) [[.str y.1,.int .u64 y.2]]=some (.sl k9 ((xs++[y]).map eW),H9):=by rw[List.map_append];exact ha
   have r9:DR H9 H1.length (b9 8 (cY 4294967295 tw).2).2:=r8.hO (oP.hO hs9) fun ⟨e,he⟩=>by have:=fK.own kx he;omega
   have pm9:=bN H9 _ y r9 (fun l hl=>⟨by rw[←hl];exact q1.symm,fun z r hz=>by
    obtain⟨z1,z2⟩:=q2 l z r hl hz
    rw[hy];exact Prod.ext z1 z2⟩) (fun h=>by subst h;rfl)
   have hf9:a6 (fun b=>b=H1.length) H5 H9:=(My Jw (My f7 f8)).trans (oP.hO hs9) fun b ⟨e,he⟩=>.inr (fK.own kx he)
   have wd:IntKind.u64.wrap (((n1-i:Nat):Int)-1)=((n1-(i+1):Nat):Int):=by
    rw[show((n1-i:Nat):Int)-1=((n1-(i+1):Nat):Int) by omega]
    exact cL (by omega)
   simp -implicitDefEqProofs only[op,ef,cl,sq,reduceIte,q5,q6,q7,q9,j1,j2,j3,j4,j5,S1,ub,Ar,bD,vA,wd]
   exact⟨i+1,by omega,.i ⟨k9,xs++[y],rfl,Xb,by simp[zm],pm9,hf9⟩,rfl,aq⟩
 rintro Ra H6⟨kL,L,ub,hLn,aeo,Jw⟩
 have jQ:=lE fM Jw (Nat.le_refl _)
 obtain⟨tw,r6,Xs⟩:∃tw,DR H6 H1.length tw∧((∃r,tw=some r∧tf tz Te=some (L,r))∨(tw=none∧tf tz Te=none)):=by
  rcases aeo.end_ aen with⟨r,h1,h2⟩|⟨h1,h2⟩
  ·exact⟨some r,h2,.inl ⟨r,rfl,h1⟩⟩
  ·exact⟨none,h2,.inr ⟨rfl,h1⟩⟩
 simp -implicitDefEqProofs only[ai,ah,op,ef,cl,sq,reduceIte,q5,q6,q7,q9,j1,j2,j3,j4,j5,S1,ub]
 refine ae _ _ _ _ _ _ _ _ (jl r6 4 (by decide)) ?_
 rintro u H7⟨hu,r7,f7⟩
 cases hu
 have nn:=lE jQ f7 (Nat.le_refl _)
 obtain⟨n2,Y7,DU,XT,ajx,ajy,aep⟩:=AL ql tw
 rw[I7 fun l e=>(r6.JB l e).1]at DU XT
 rw[←XT]at r7
 rw[←DU]
 have pm7:xr ql H7 H1.length n2 Y7 0 []:=dm0 r7
 have lc7:=r7.lt
 simp -implicitDefEqProofs only[op,ef,cl,sq,reduceIte,q5,q6,q7,q9,j1,j2,j3,j4,j5,S1]
 refine W.dV 2 [(0,_),(1,_),(8,_),(9,_),(10,_)] (fun (i:Nat) R H'=>At H' (fun H'=>∃kk xs,R 13=.sl kk ((xs.map (uf now L)).map cP)∧fK H7.length H' kk∧xs.length=i∧xr ql H' H1.length n2 Y7 i xs∧a6 (fun b=>b=H1.length) H7 H')∧R 14=.int .u64 ((n2-i:Nat):Int)∧i≤n2) (fun i=>n2-i) 0
  (fun R H'=>At H' (fun H'=>∃kk xs,R 13=.sl kk ((xs.map (uf now L)).map cP)∧xr ql H' H1.length n2 Y7 n2 xs∧a6 (fun b=>b=H1.length) H7 H')) ⟨.i ⟨.nil,[],rfl,ft _ _,rfl,pm7,a6.refl _ _⟩,rfl,Nat.zero_le _⟩ ?_ ?_
 ·rintro i R H8⟨⟨kk,xs,N3,kx,zm,oH,yL⟩,xo,hi⟩
  obtain⟨Rw,IJ,jh⟩:=oH.wf
  have RX:=IJ
  obtain⟨kw,rw',dw,_,_,hw4⟩:=IJ
  by_cases aq:i<n2
  rotate_left
  ·have gR:i=n2:=by omega
   subst gR
   have e:decide (((i-i:Nat):Int)>0)=false:=by simp
   simp -implicitDefEqProofs only[ai,ah,op,ef,cl,sq,reduceIte,q5,q6,q7,q9,j1,j2,j3,j4,j5,S1,N3,xo,e,cC]
   exact .i ⟨kk,xs,rfl,oH,yL⟩
  have e:decide (((n2-i:Nat):Int)>0)=true:=by simp;omega
  cases Rw with
  | none =>
   simp -implicitDefEqProofs only[Option.isNone_none]at dw
   simp -implicitDefEqProofs only[ai,ah,op,ef,cl,sq,reduceIte,q5,q6,q7,q9,j1,j2,j3,j4,j5,S1,N3,xo,e,dw,cC]
   exact .i ⟨kk,xs,rfl,.inr ⟨RX,jh rfl⟩,yL⟩
  | some lw =>
   simp -implicitDefEqProofs only[Option.isNone_some]at dw
   obtain⟨m4,hr9,bN⟩:=oH.step aq
   have lc9:=hr9.lt
   obtain⟨q1,q0,q2⟩:=aeh m4
   simp -implicitDefEqProofs only[ai,ah,op,ef,cl,sq,reduceIte,q5,q6,q7,q9,j1,j2,j3,j4,j5,S1,xo,e,dw]
   refine ae _ _ _ _ _ _ _ _ (xa hr9) ?_
   rintro u H9⟨hu,r9,f9⟩
   cases hu
   obtain⟨key,XU⟩:∃key,key=(cY 4294967295 m4).1:=⟨_,rfl⟩
   rw[←XU]
   have r9:DR H9 H1.length (Tc m4).2:=r9
   have ajA:=r9.lt
   obtain⟨pq,RY⟩:∃pq,pq=H9++[B.cells [.str key,.int .u64 0,.str ⟨#[]⟩,.sl .nil []]]:=⟨_,rfl⟩
   have ig:Ext H9 pq:=⟨_,RY⟩
   have d10:pq[H9.length]?=some (.cells [.str key,.int .u64 0,.str ⟨#[]⟩,.sl .nil []]):=by rw[RY];exact aE rfl
   have bF:H9.length≠H1.length:=by omega
   simp -implicitDefEqProofs only[op,ef,cl,sq,reduceIte,q5,q6,q7,q9,j1,j2,j3,j4,j5,S1,S2]
   rw[←RY]
   refine ae _ _ _ _ _ _ _ _ (jl (r9.ext ig) 8 (by decide)) ?_
   rintro u xp⟨hu,QO,f11⟩
   cases hu
   obtain⟨id,Lo⟩:∃id,id=(b9 8 (Tc m4).2).1:=⟨_,rfl⟩
   rw[←Lo]
   have QO:DR xp H1.length (Td m4).2:=QO
   have d11:=f11.get d10 bF
   have Ys:=aQ d11
   obtain⟨y8,RZ⟩:∃y8,y8=xp.set H9.length (.cells [.str key,.int .u64 id,.str ⟨#[]⟩,.sl .nil []]):=⟨_,rfl⟩
   have f12:a6 (fun b=>b=H9.length) xp y8:=by rw[RZ];exact a6.set (F:=fun b=>b=H9.length) (a6.refl _ _) (.inl rfl) _
   have d12:y8[H9.length]?=some (.cells [.str key,.int .u64 id,.str ⟨#[]⟩,.sl .nil []]):=by rw[RZ];exact bQ Ys
   have QP:=QO.hO f12 (Ne.symm bF)
   simp -implicitDefEqProofs only[op,ef,cl,sq,reduceIte,q5,q6,q7,q9,j1,j2,j3,j4,j5,S1,d11,Ys,S2]
   rw[←RZ]
   refine ae _ _ _ _ _ _ _ _ (xa QP) ?_
   rintro u wT⟨hu,Ny,f13⟩
   cases hu
   obtain⟨val,sb⟩:∃val,val=(cY 4294967295 (Td m4).2).1:=⟨_,rfl⟩
   rw[←sb]
   have Ny:DR wT H1.length (RT m4).2:=Ny
   have d13:=f13.get d12 bF
   have l13:=aQ d13
   obtain⟨zs,R9⟩:∃zs,zs=wT.set H9.length (.cells [.str key,.int .u64 id,.str val,.sl .nil []]):=⟨_,rfl⟩
   have f14:a6 (fun b=>b=H9.length) wT zs:=by rw[R9];exact a6.set (F:=fun b=>b=H9.length) (a6.refl _ _) (.inl rfl) _
   have d14:zs[H9.length]?=some (.cells [.str key,.int .u64 id,.str val,.sl .nil []]):=by rw[R9];exact bQ l13
   have r14:=Ny.hO f14 (Ne.symm bF)
   simp -implicitDefEqProofs only[op,ef,cl,sq,reduceIte,q5,q6,q7,q9,j1,j2,j3,j4,j5,S1,d13,l13,S2]
   rw[←R9]
   refine ae _ _ _ _ _ _ _ _ (jl r14 4 (by decide)) ?_
   rintro u D5⟨hu,r15,f15⟩
   cases hu
   have d15:=f15.get d14 bF
   have l15:=aQ d15
   obtain⟨n3,Sa,YL,N4,ajB,ajC,aeq⟩:=AL (pT 4294967295) (RT m4).2
   rw[I7 fun l e=>(Ny.JB l e).1]at YL N4
   rw[←N4]at r15
   rw[←YL]
   have aer:xr (pT 4294967295) D5 H1.length n3 Sa 0 []:=dm0 r15
   have XV:a6 (fun b=>b=H1.length∨H8.length≤b) H8 D5:=by
    have g1:a6 (fun b=>b=H1.length∨H8.length≤b) H8 pq:=(f9.mono fun b hb=>.inl hb).ext ig
    have l9:=f9.1
    have g2:=(g1.trans f11 fun b hb=>.inl (.inl hb)).trans f12 fun b hb=>.inl (.inr (by omega))
    exact((g2.trans f13 fun b hb=>.inl (.inl hb)).trans f14 fun b hb=>.inl (.inr (by omega))).trans f15 fun b hb=>.inl (.inl hb)
   simp -implicitDefEqProofs only[op,ef,cl,sq,reduceIte,q5,q6,q7,q9,j1,j2,j3,j4,j5,S1]
   refine W.dV 4 [(0,_),(1,_),(8,_),(9,_),(10,_),(13,_),(14,_),(15,_)] (fun (j:Nat) R H'=>At H' (fun H'=>∃kq ks,H'[H9.length]?=some (.cells [.str key,.int .u64 id,.str val,.sl kq (ks.map eS)])∧fK D5.length H' kq∧ks.length=j∧xr (pT 4294967295) H' H1.length n3 Sa j ks∧a6 (fun b=>b=H1.length∨b=H9.length) D5 H')∧R 16=.int .u64 ((n3-j:Nat):Int)∧j≤n3) (fun j=>n3-j) 0
    (fun R H'=>At H' (fun H'=>∃kq ks,H'[H9.length]?=some (.cells [.str key,.int .u64 id,.str val,.sl kq (ks.map eS)])∧xr (pT 4294967295) H' H1.length n3 Sa n3 ks∧a6 (fun b=>b=H1.length∨b=H9.length) D5 H')) ⟨.i ⟨.nil,[],d15,ft _ _,rfl,aer,a6.refl _ _⟩,rfl,Nat.zero_le _⟩ ?_ ?_
   ·rintro j Rb Jb⟨⟨kq,ks,dq,aes,MN,Eu,Sb⟩,Y8,hj⟩
    obtain⟨sw,XW,hbq⟩:=Eu.wf
    have aet:=XW
    obtain⟨_,_,Y9,_,_,_⟩:=XW
    by_cases L4:j<n3
    rotate_left
    ·have Hw:j=n3:=by omega
     subst Hw
     have e:decide (((j-j:Nat):Int)>0)=false:=by simp
     simp -implicitDefEqProofs only[ai,ah,op,ef,cl,sq,reduceIte,q5,q6,q7,q9,j1,j2,j3,j4,j5,S1,Y8,e,cC]
     exact .i ⟨kq,ks,dq,Eu,Sb⟩
    have e:decide (((n3-j:Nat):Int)>0)=true:=by simp;omega
    cases sw with
    | none =>
     simp -implicitDefEqProofs only[Option.isNone_none]at Y9
     simp -implicitDefEqProofs only[ai,ah,op,ef,cl,sq,reduceIte,q5,q6,q7,q9,j1,j2,j3,j4,j5,S1,Y8,e,Y9,cC]
     exact .i ⟨kq,ks,dq,.inr ⟨aet,hbq rfl⟩,Sb⟩
    | some lw' =>
     simp -implicitDefEqProofs only[Option.isNone_some]at Y9
     obtain⟨stq,hrq,hsq⟩:=Eu.step L4
     obtain⟨z1,z2⟩:=nxT 4294967295 stq
     simp -implicitDefEqProofs only[ai,ah,op,ef,cl,sq,reduceIte,q5,q6,q7,q9,j1,j2,j3,j4,j5,S1,Y8,e,Y9,dq]
     refine ae _ _ _ _ _ _ _ _ (xa hrq) ?_
     rintro u N5⟨hu,r17,f17⟩
     cases hu
     obtain⟨s,hs⟩:∃s,s=(cY 4294967295 stq).1:=⟨_,rfl⟩
     rw[←hs]
     have d17:=f17.get dq bF
     have l16:D5.length≤Jb.length:=Sb.1
     have l17:Jb.length≤N5.length:=f17.1
     have Cj:=fK.hO aes f17 (fun t ht=>by omega)
     have XX:=all_map (enc:=eS) (n:=1) (fun _=>rfl) ks
     obtain⟨k18,N6,ha,aex,Sc⟩:=gC (bytes:=16) (ks.map eS) [eS s] Cj (by omega) (by simp) (ga (by simp -implicitDefEqProofs only[List.length_map,List.length_cons,List.length_nil];omega))
     have vA:fP N5 16 kq (ks.map eS) [[.str s]]=some (.sl k18 ((ks++[s]).map eS),N6):=by rw[List.map_append];exact ha
     have d18:=Sc.cells Cj d17 (by simp)
     have l18:=aQ d18
     have f18:a6 (fun b=>b=H1.length∨b=H9.length) D5 N6:=(Sb.trans f17 fun b hb=>.inl (.inl hb)).trans (oP.hO Sc) fun b ⟨e,he⟩=>.inr (fK.own Cj he)
     have Sd:a6 (fun b=>b=H9.length) N6 (N6.set H9.length (.cells [.str key,.int .u64 id,.str val,.sl k18 ((ks++[s]).map eS)])):=a6.set (F:=fun b=>b=H9.length) (a6.refl _ _) (.inl rfl) _
     have r18:DR N6 H1.length (cY 4294967295 stq).2:=r17.hO (oP.hO Sc) fun ⟨e,he⟩=>by have:=fK.own Cj he;omega
     have r19:=r18.hO Sd (Ne.symm bF)
     have AM:=hsq _ _ s r19 (fun l hl=>⟨by rw[←hl];exact z1.symm,fun z r hz=>by rw[hs];exact z2 l z r hl hz⟩) (fun h=>by subst h;rfl)
     have AN:=fK.hO aex Sd (fun t ht=>by omega)
     have wd:IntKind.u64.wrap (((n3-j:Nat):Int)-1)=((n3-(j+1):Nat):Int):=by
      rw[show((n3-j:Nat):Int)-1=((n3-(j+1):Nat):Int) by omega]
      exact cL (by omega)
     simp -implicitDefEqProofs only[op,ef,cl,sq,reduceIte,q5,q6,q7,q9,j1,j2,j3,j4,j5,S1,Y8,d17,XX,vA,d18,l18,S2,wd]
     exact⟨j+1,by omega,.i ⟨k18,ks++[s],bQ l18,AN,by simp[MN],AM,f18.trans Sd fun b hb=>.inl (.inr hb)⟩,rfl,L4⟩
   rintro Rc Jb⟨kq,ks,dq,Eu,Sb⟩
   obtain⟨r16,MI⟩:DR Jb H1.length (DI m4).2∧((DI m4).2≠none→(DI m4).1=ks):=by
    have e4:DI m4=jM 4294967295 4294967295 (RT m4).2:=rfl
    rw[e4,RW]
    rcases Eu.end_ aeq with⟨r,h1,h2⟩|⟨h1,h2⟩
    ·rw[h1];exact⟨h2,fun _=>rfl⟩
    ·rw[h1];exact⟨h2,fun h=>absurd rfl h⟩
   obtain⟨y,hy⟩:∃y:Kd,y=⟨key,id,val,.arg,ks,-1⟩:=⟨_,rfl⟩
   obtain⟨N5,Se⟩:∃N5,N5=Jb++[B.cells [.str key,.int .u64 id,.str val,.sl kq (ks.map eS),.int .i64 (-1)]]:=⟨_,rfl⟩
   have Mz:Ext Jb N5:=⟨_,Se⟩
   have d17:N5[Jb.length]?=some (.cells [.str key,.int .u64 id,.str val,.sl kq (ks.map eS),.int .i64 (-1)]):=by rw[Se];exact aE rfl
   have l17:=aQ d17
   have Sf:=Mz.get dq
   have ajJ:=XV.1
   have l89:=f9.1
   have l16:D5.length≤Jb.length:=Sb.1
   have XY:a6 (fun b=>b=H1.length∨H8.length≤b) H8 N5:=(XV.trans Sb fun b hb=>by
    rcases hb with hb|hb
    ·exact .inl (.inl hb)
    ·exact .inl (.inr (by omega))).ext Mz
   have wd:IntKind.u64.wrap (((n2-i:Nat):Int)-1)=((n2-(i+1):Nat):Int):=by
    rw[show((n2-i:Nat):Int)-1=((n2-(i+1):Nat):Int) by omega]
    exact cL (by omega)
   have bD:=all_map (enc:=cP) (n:=5) (fun _=>rfl) (xs.map (uf now L))
   have fin:∀Hx,a6 (fun b=>b=H1.length∨H8.length≤b) H8 Hx→DR Hx H1.length (DI m4).2→∃MA Jc,fP Hx 72 kk ((xs.map (uf now L)).map cP) [[.str key,.int .u64 id,.str val,.sl .arg (ks.map eS),.int .i64 (if id<lk L key then now else -1)]]=some (.sl MA (((xs++[y]).map (uf now L)).map cP),Jc)∧fK H7.length Jc MA∧xr ql Jc H1.length n2 Y7 (i+1) (xs++[y])∧a6 (fun b=>b=H1.length) H7 Jc:=by
    intro Hx hfx hrx
    have l78:=yL.1
    have l8x:=hfx.1
    have Sg:=aek kx hfx (fun t h1 h2=>by omega)
    have Xv:cP (uf now L y)=[.str key,.int .u64 id,.str val,.sl .arg (ks.map eS),.int .i64 (if id<lk L key then now else -1)]:=by rw[hy];rfl
    obtain⟨MA,Jc,ha,AN,XZ⟩:=gC (bytes:=72) ((xs.map (uf now L)).map cP) [cP (uf now L y)] Sg (by omega) (by simp) (ga (by simp -implicitDefEqProofs only[List.length_map,List.length_cons,List.length_nil];omega))
    have zz:fP Hx 72 kk ((xs.map (uf now L)).map cP) [cP (uf now L y)]=some (.sl MA (((xs++[y]).map (uf now L)).map cP),Jc):=by
     rw[ha,List.map_append,List.map_append]
     have:([cP (uf now L y)].map fun c=>c.map T.erase)=[cP (uf now L y)]:=by rw[Xv];rfl
     rw[this];rfl
    rw[Xv]at zz
    have r19:DR Jc H1.length (DI m4).2:=hrx.hO (oP.hO XZ) fun ⟨e,he⟩=>by have:=fK.own Sg he;omega
    have AM:=bN Jc (DI m4).2 y r19 (fun l hl=>⟨by rw[←hl];exact q1.symm,fun z r hz=>by
     obtain⟨z1,z2,z3,z4,z5,z6⟩:=q2 l z r hl hz
     have hn:(DI m4).2≠none:=by rw[←q1,hl];simp -implicitDefEqProofs only[nx,hz];simp
     rw[hy,←MI hn,XU,Lo,sb]
     show Kd.mk (Tc m4).1 (Td m4).1 (RT m4).1 .arg (DI m4).1 (-1)=z
     rw[z1,z2,z3,z4,←z5,←z6]⟩) q0
    refine⟨MA,Jc,zz,AN,AM,(yL.trans hfx fun b hb=>?_).trans (oP.hO XZ) fun b ⟨e,he⟩=>.inr (fK.own Sg he)⟩
    rcases hb with hb|hb
    ·exact .inl hb
    ·exact .inr (by omega)
   simp -implicitDefEqProofs only[ai,ah,op,ef,cl,sq,reduceIte,q5,q6,q7,q9,j1,j2,j3,j4,j5,S1,dq,S2]
   rw[←Se]
   simp -implicitDefEqProofs only[op,ef,cl,sq,reduceIte,q5,q6,q7,q9,j1,j2,j3,j4,j5,S1,Sf,ub]
   refine ae _ _ _ _ _ _ _ _ (RS kL L (by omega) key _) ?_
   rintro u N6⟨hu,rfl⟩
   cases hu
   have elk:(aj L key).getD 0=lk L key:=rfl
   rw[elk]
   by_cases hs:id<lk L key
   ·have ff:(id:Int)<((lk L key:Nat):Int):=by omega
    have X0:a6 (fun b=>b=Jb.length) N6 (N6.set Jb.length (.cells [.str key,.int .u64 id,.str val,.sl kq (ks.map eS),.int .i64 now])):=a6.set (F:=fun b=>b=Jb.length) (a6.refl _ _) (.inl rfl) _
    obtain⟨MA,Jc,ha,AN,AM,Si⟩:=fin _ (XY.trans X0 fun b hb=>.inl (.inr (by omega))) ((r16.ext Mz).hO X0 (by omega))
    rw[if_pos hs]at ha
    have d18:=bQ (x:=B.cells [.str key,.int .u64 id,.str val,.sl kq (ks.map eS),.int .i64 now]) l17
    simp -implicitDefEqProofs only[op,ef,cl,sq,reduceIte,q5,q6,q7,q9,j1,j2,j3,j4,j5,S1,Sf,d17,l17,N3,xo,ff,S2,bD,ha,wd]
    exact⟨i+1,by omega,.i ⟨MA,xs++[y],rfl,AN,by simp[zm],AM,Si⟩,rfl,aq⟩
   ·have ff:¬(id:Int)<((lk L key:Nat):Int):=by omega
    obtain⟨MA,Jc,ha,AN,AM,Si⟩:=fin _ XY (r16.ext Mz)
    rw[if_neg hs]at ha
    simp -implicitDefEqProofs only[op,ef,cl,sq,reduceIte,q5,q6,q7,q9,j1,j2,j3,j4,j5,S1,Sf,d17,N3,xo,ff,bD,ha,wd]
    exact⟨i+1,by omega,.i ⟨MA,xs++[y],rfl,AN,by simp[zm],AM,Si⟩,rfl,aq⟩
 rintro R H8⟨kk,K,N3,aeA,yL⟩
 have nE:=lE nn yL (Nat.le_refl _)
 obtain⟨m4,r9,RG⟩:∃m4,DR H8 H1.length m4∧((∃r,m4=some r∧tf ql tw=some (K,r))∨(m4=none∧tf ql tw=none)):=by
  rcases aeA.end_ aep with⟨r,h1,h2⟩|⟨h1,h2⟩
  ·exact⟨some r,h2,.inl ⟨r,rfl,h1⟩⟩
  ·exact⟨none,h2,.inr ⟨rfl,h1⟩⟩
 have hR:dR bd=match tf tz Te with
  | none=>none
  | some (L,r3)=>match tf ql (some r3)with
   | none=>none
   | some (K,r4)=>if r4=[]then some (g,L,K)else none:=by
  have e5:(tk 5 (some bd)).2=(b9 5 (some bd)).2:=by rw[I3]
  rw[XQ,hg,XR,e5]
 have hRn:m4≠some []→dR bd=none:=fun hw=>by
  rw[hR]
  rcases Xs with⟨r,h1,h2⟩|⟨h1,h2⟩
  ·rw[h2]
   simp only
   rw[←h1]
   rcases RG with⟨r',h3,h4⟩|⟨h3,h4⟩
   ·rw[h4]
    simp only
    rw[if_neg (fun h=>hw (by rw[h3,h]))]
   ·rw[h4]
  ·rw[h2]
 obtain⟨k9,r9',d9,_,_,h94⟩:=r9
 cases m4 with
 | none =>
  simp -implicitDefEqProofs only[Option.isNone_none]at d9
  simp -implicitDefEqProofs only[ai,ah,op,ef,cl,sq,reduceIte,q5,q6,q7,q9,j1,j2,j3,j4,j5,S1,N3,d9]
  exact bad nE fun g' L' K' h1 _ _ _=>by rw[hRn (by simp)]at h1;cases h1
 | some rr =>
  obtain rfl:=h94 rr rfl
  simp -implicitDefEqProofs only[Option.isNone_some]at d9
  by_cases hr0:rr=[]
  rotate_left
  ·have lg:decide ((rr.length:Int)>0)=true:=by
    have:0<rr.length:=List.length_pos_iff.2 hr0
    exact decide_eq_true (by omega)
   simp -implicitDefEqProofs only[ai,ah,op,ef,cl,sq,reduceIte,q5,q6,q7,q9,j1,j2,j3,j4,j5,S1,N3,d9,List.length_map,lg]
   exact bad nE fun g' L' K' h1 _ _ _=>by rw[hRn (by simp;exact hr0)]at h1;cases h1
  subst hr0
  have X1:dR bd=some (g,L,K):=by
   rw[hR]
   rcases RG with⟨r',h3,h4⟩|⟨h3,h4⟩
   ·cases h3
    rcases Xs with⟨r,h1,h2⟩|⟨h1,h2⟩
    ·rw[h2]
     simp only
     rw[←h1,h4]
     simp -implicitDefEqProofs only[if_true]
    ·rw[h1]at h4;cases h4
   ·cases h3
  obtain⟨i1,_,i3,i4,i5,i6⟩:=I4 Nn X1
  have hkd:∀x∈K.map (uf now L),Ic x:=fun x hx=>by
   obtain⟨z,hz,rfl⟩:=List.mem_map.1 hx
   have e1:=(i4 z hz).2
   have e2:z.kk=.arg:=by rw[←e1];rfl
   have h1:=I9 hz
   have h2:=kr g L K
   refine⟨fun e=>?_,?_⟩
   ·have h5:(uf now L z).kk=z.kk:=rfl
    rw[h5,e2]at e;cases e
   ·show z.keys.length≤_
    omega
  have c0:decide (((([]:List Nat).length:Nat):Int)>0)=false:=by decide
  have n0:(([]:List Nat).map eB)=[]:=rfl
  rw[n0]at d9
  have z0:decide ((0:Int)>0)=false:=by decide
  simp -implicitDefEqProofs only[ai,ah,op,ef,cl,sq,reduceIte,q5,q6,q7,q9,j1,j2,j3,j4,j5,S1,N3,ub,d9]
  refine ae _ _ _ _ _ _ _ _ (Rg kk kL (K.map (uf now L)) L (by rw[List.length_map];omega) (by omega) hkd _) ?_
  rintro u H9 (⟨lG,p,hu,hrp⟩|⟨fI,hu,y7⟩)
  rotate_left
  ·cases hu
   have e2:((1:Int) != 0)=true:=rfl
   simp -implicitDefEqProofs only[op,ef,cl,sq,reduceIte,q5,q6,q7,q9,j1,j2,j3,j4,j5,S1,e2]
   exact bad (nE.trans y7) fun g' L' K' h1 h2 _ _=>by
    rw[X1]at h1;cases h1
    exact fI (I5.2 h2)
  cases hu
  have e2:((0:Int) != 0)=false:=rfl
  have X2:=I5.1 lG
  simp -implicitDefEqProofs only[op,ef,cl,sq,reduceIte,q5,q6,q7,q9,j1,j2,j3,j4,j5,S1,e2]
  by_cases hg1:1≤g∧g≤9223372036854775807
  rotate_left
  ·have hgl:gi<1:=by
    by_cases h0:g=0
    ·subst h0
     rw[←Y6];decide
    ·rw[←Y6];exact I8 (by omega) ael
   refine ae _ _ _ _ _ _ _ _ (IY p gi hgl _) ?_
   rintro u pq⟨hu,rfl⟩
   cases hu
   have e2:((1:Int) != 0)=true:=rfl
   have y7:Ext H8 pq:=by
    obtain⟨_,_,_,_,hf,_⟩:=hrp;exact dn hf
   simp -implicitDefEqProofs only[op,ef,cl,sq,reduceIte,q5,q6,q7,q9,j1,j2,j3,j4,j5,S1,e2]
   exact bad (nE.trans y7) fun g' L' K' h1 _ h3 _=>by
    rw[X1]at h1;cases h1
    exact hg1 h3
  have hgg:gi=(g:Int):=by rw[←Y6,wrap64 (by omega)]
  subst hgg
  obtain⟨tK,tL,G,rc,av,hG⟩:=hrp
  have ebd:body (g:Int).toNat L ((K.map (uf now L)).map ak)=body g L K:=by
   rw[Int.toNat_natCast,List.map_map]
   exact Ja g L K _ fun _=>rfl
  have hc:W env (.call 11 [.int .i64 (g:Int),.ptr p 0]) H9 (fun o H'=>Ext H9 H'∧∃k,o=.val (.bC [.sl k ((whole (body g L K)).map eB),.int .i64 0])):=by
   rw[←ebd]
   exact IB rc (by rw[List.length_map,List.length_map];omega) (by omega) (fun x hx=>(rc.ko x hx).2) (g:Int) ⟨by omega,by omega⟩ (by rw[ebd];omega)
  refine ae _ _ _ _ _ _ _ _ hc ?_
  rintro u pq⟨ig,TW,hu⟩
  cases hu
  have ig:Ext H9 pq:=ig
  have q1:=Dz (k:=TW) (l:=whole (body g L K))
  have q2:=Dz (k:=k) (l:=l)
  have aeC:Ext H8 H9:=dn av
  have hbw:cT (whole (body g L K)):=m5 (ji _ _ _)
  have afU:=sU (whole (body g L K))
  by_cases hw:whole (body g L K)=l
  ·rw[hw]at q1
   simp -implicitDefEqProofs only[op,ef,cl,sq,reduceIte,q5,q6,q7,q9,j1,j2,j3,j4,j5,S1,hw,↓q1,↓q2]
   refine .inr (.inr (.inr ⟨ht,zt,g,L,K,p,⟨by rw[hq];exact X1,X2,hg1,hw⟩,rfl,?_⟩))
   have eK:(K.map (uf now L)).map ak=K.map (nq now L):=by
    rw[xb X2.1,List.map_map]
    refine List.map_congr_left fun x hx=>?_
    have e1:=(i4 x hx).2
    have e2:x.kk=.arg:=by rw[←e1];rfl
    simp -implicitDefEqProofs only[Function.comp,ak,nq,e2]
   rw[eK]at rc
   exact⟨tK,tL,G,rc.ext ig,((aB nE).more av fun c h=>h.elim).ext ig,fun c hc=>by have:=hG c hc;have:=nE.len;omega⟩
  ·have zG:¬ue (whole (body g L K))=ue l:=fun h=>hw ((Ce hbw hb).1 h)
   simp -implicitDefEqProofs only[op,ef,cl,sq,reduceIte,q5,q6,q7,q9,j1,j2,j3,j4,j5,S1,↓q1,↓q2,zG]
   exact bad (nE.trans (aeC.trans ig)) fun g' L' K' h1 _ _ h4=>by
    rw[X1]at h1;cases h1
    exact hw h4
end Go.Proofs.YtdcpehdijdllpaaGreat.St
end
