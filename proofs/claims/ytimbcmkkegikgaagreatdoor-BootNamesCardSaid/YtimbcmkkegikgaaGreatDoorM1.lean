/- Part of a proof of a law of this seat: the machine of plain values, its simulation, and the contracts of the functions that the law reaches. Conditions: none beyond the given row. -/
import Derived.Test.YtimbcmkkegikgaaGreatDoorM0
import Derived.Laws.IdiomStrings
import Derived.RangeFuncRecord
import Derived.RangeFuncIn
import Derived.OpenShut
import Derived.RowKit3
import Derived.ChangeSame
import Derived.ReadAgain
import Derived.ChangeCalls
import Derived.Deep.Frames
import Derived.Laws.Strings
open Int renaming reduceLT → q6, reduceLE → q7, reduceBEq → q8, reduceBNe → q9, reduceEq → y1
open Nat renaming reduceAdd → y2, reduceLeDiff → y3, reduceLT → y4, reduceEqDiff → y5
set_option linter.unusedSimpArgs false
set_option linter.unusedVariables false
set_option linter.unnecessarySimpa false
set_option maxHeartbeats 4000000
section
namespace Go.Rmp
section
variable {P:Program} {w0 w:World} {g:Ctx} {H H':aa} {R:ai} {ρ:Operand→Value} {t:T}
theorem vj {op:BinOp}{ty:TypeId}{ox oy:Operand}{x y:X}{b:Bo}(hc:qO P op ty x y=some b)(h:SR w0 g H w)(hx:VR g w (x.ev R) (ρ ox))(hy:VR g w (y.ev R) (ρ oy))(he:ae R H b=some (t,H')) :
  tZ P w0 g H w (do pure (Next.value (←(do eqGuard op ty ox oy (ρ ox) (ρ oy);binOp op ty (ρ ox) (ρ oy))))) t H':=by
 refine aG.fv ?_
 unfold qO at hc
 cases hu:P.underlying ty with
 | none=>simp[hu]at hc
 | some d =>
  rw[hu]at hc
  have heq:∀n,isEq op=some n→op=if n then .neq else .eql:=by
   intro n hn;cases op<;>simp[isEq]at hn<;>subst hn<;>rfl
  have bin:b=.bin op x y→aG P w0 g H w (do eqGuard op ty ox oy (ρ ox) (ρ oy);binOp op ty (ρ ox) (ρ oy)) t H':=by
   rintro rfl
   simp only[ae,Option.map_eq_some_iff,Prod.mk.injEq]at he
   obtain⟨t',h1,rfl,rfl⟩:=he
   exact uu h hx hy h1
  have ref:(∃n c,isEq op=some n∧cls d=some c∧b=.eX n c x y)→aG P w0 g H w (do eqGuard op ty ox oy (ρ ox) (ρ oy);binOp op ty (ρ ox) (ρ oy)) t H':=by
   rintro⟨n,c,h1,h2,rfl⟩
   simp only[ae,Option.map_eq_some_iff,Prod.mk.injEq]at he
   obtain⟨r,h3,rfl,rfl⟩:=he
   rw[heq n h1]
   exact uw hu (by cases d<;>simp[cls]at h2<;>subst h2<;>rfl) h hx hy h3
  have gu:(match isEq op,cls d with|some n,some c=>some (Bo.eX n c x y)|_,_=>none)=some b→(∃n c,isEq op=some n∧cls d=some c∧b=.eX n c x y):=by
   intro hh
   cases h1:isEq op with
   | none=>simp[h1]at hh
   | some n =>
    cases h2:cls d with
    | none=>simp[h1,h2]at hh
    | some c=>simp[h1,h2]at hh;exact⟨n,c,rfl,rfl,hh.symm⟩
  cases d with
  | int k=>simp at hc;exact bin hc.symm
  | string=>simp at hc;exact bin hc.symm
  | bool =>
   simp only[Option.map_eq_some_iff]at hc
   obtain⟨n,h1,rfl⟩:=hc
   simp only[ae]at he
   rw[heq n h1]
   generalize x.ev R=tx at hx he
   generalize y.ev R=zh at hy he
   cases tx<;>cases zh<;>simp at he
   obtain⟨rfl,rfl⟩:=he
   exact uv hu h hx hy
  | struct fs =>
   cases h1:isEq op with
   | none=>simp[h1]at hc
   | some n =>
    cases h2:kinds P fs.toList with
    | none=>simp[h1,h2]at hc
    | some ks =>
     simp only[h1,h2]at hc
     split at hc
     ·rename_i aC
      simp only[Bool.and_eq_true,Bool.not_eq_true']at aC
      simp at hc;subst hc
      simp only[ae]at he
      rw[heq n h1]
      generalize x.ev R=tx at hx he
      generalize y.ev R=zh at hy he
      cases tx<;>cases zh<;>(try simp only[reduceCtorEq]at he)
      split at he
      ·rename_i hk
       simp only[Option.map_eq_some_iff,Prod.mk.injEq]at he
       obtain⟨r,h3,rfl,rfl⟩:=he
       exact ux hu aC.1.1 aC.1.2 aC.2 h hx hy hk h3
      ·cases he
     ·cases hc
  | pointer _=>exact ref (gu hc)
  | slice _=>exact ref (gu hc)
  | map _ _=>exact ref (gu hc)
  | func _ _ _=>exact ref (gu hc)
  | invalid=>exact ref (gu hc)
  | float _=>exact ref (gu hc)
  | complex _=>exact ref (gu hc)
  | unsafePointer=>exact ref (gu hc)
  | array _ _=>exact ref (gu hc)
  | chan _ _=>exact ref (gu hc)
  | interface _=>exact ref (gu hc)
  | tuple _=>exact ref (gu hc)
  | named _ _=>exact ref (gu hc)
theorem qQ {ty:TypeId}{v:Value}{x:X}{b:Bo}(hc:jK P ty x=some b)(h:SR w0 g H w)(hx:VR g w (x.ev R) v)(he:ae R H b=some (t,H')):tZ P w0 g H w (do pure (Next.value (←Instr.loadAt ty v))) t H':=by
 refine aG.fv ?_
 unfold jK at hc
 cases hu:P.underlying ty with
 | none=>simp[hu]at hc
 | some d =>
  cases hi:P.info? ty with
  | none=>simp[hu,hi]at hc
  | some i =>
   simp only[hu,hi,Option.some.injEq]at hc
   subst hc
   simp only[ae]at he
   cases hl:gF H (if bC d then i.size else 1) (x.ev R)with
   | none=>simp[hl]at he
   | some cs =>
    simp only[hl,Option.map_eq_some_iff,Prod.mk.injEq]at he
    obtain⟨t',h1,rfl,rfl⟩:=he
    exact yM hu hi rfl (fun e=>by rw[if_pos e]) h hx hl h1
theorem jM {ty:TypeId}{v:Value}{x:X}{f:Nat}{ad:Bool}{b:Bo}(hc:fu P ty x f ad=some b)(h:SR w0 g H w)(hx:VR g w (x.ev R) v)(he:ae R H b=some (t,H')) :
  aG P w0 g H w (if ad then Instr.fieldAt ty v f else Instr.field ty v f) t H':=by
 unfold fu at hc
 cases hu:P.underlying ty with
 | none=>simp[hu]at hc
 | some d =>
  cases d<;>simp only[hu]at hc<;>(try (cases hc;done))
  rename_i fs
  cases hf:fs[f]? with
  | none=>simp[hf]at hc
  | some fl =>
   simp only[hf]at hc
   cases hd:P.underlying fl.type with
   | none=>simp[hd]at hc
   | some d =>
    cases hi:P.info? fl.type with
    | none=>simp[hd,hi]at hc
    | some i =>
     simp only[hd,hi]at hc
     cases ad with
     | true =>
      simp only[if_true]at hc
      split at hc
      ·cases hc
      ·rename_i hz
       simp at hc;subst hc
       simp only[ae]at he
       simp only[Option.map_eq_some_iff,Prod.mk.injEq]at he
       obtain⟨t',h1,rfl,rfl⟩:=he
       exact uC hu hf hi hz h hx h1
     | false =>
      simp only[Bool.false_eq_true,if_false,Option.some.injEq]at hc
      subst hc
      simp only[ae]at he
      generalize x.ev R=tx at hx he
      cases tx<;>(try simp only[reduceCtorEq]at he)
      rename_i cs
      split at he
      ·rename_i hle
       simp only[Option.map_eq_some_iff,Prod.mk.injEq]at he
       obtain⟨t',h1,rfl,rfl⟩:=he
       exact uD hu hf hd hi rfl h hx hle h1
      ·cases he
theorem oa {ty:TypeId}{v vi:Value}{x i:X}{ad:Bool}{b:Bo}(hc:nq P ty x i ad=some b)(h:SR w0 g H w)(hx:VR g w (x.ev R) v)(hi:VR g w (i.ev R) vi)(he:ae R H b=some (t,H')) :
  aG P w0 g H w (if ad then Instr.indexAt ty v vi else Instr.index ty v vi) t H':=by
 unfold nq at hc
 cases hu:P.underlying ty with
 | none=>simp[hu]at hc
 | some d =>
  cases d<;>cases ad<;>simp only[hu]at hc<;>(try (cases hc;done))
  ·-- string
   simp at hc;subst hc
   simp only[ae]at he
   generalize x.ev R=tx at hx he
   cases tx<;>(try simp only[reduceCtorEq]at he)
   cases hn:aR (i.ev R)with
   | none=>simp[hn]at he
   | some n =>
    simp only[hn,Option.map_eq_some_iff,Prod.mk.injEq]at he
    obtain⟨c,h1,rfl,rfl⟩:=he
    exact uG hu h hx hi hn h1
  ·-- slice
   rename_i e
   cases gR:P.info? e with
   | none=>simp[gR]at hc
   | some ei =>
    simp[gR]at hc;subst hc
    simp only[ae]at he
    simp only[Option.bind_eq_some_iff,Option.map_eq_some_iff,Prod.mk.injEq]at he
    obtain⟨n,h1,t',h2,rfl,rfl⟩:=he
    exact uE hu gR h hx hi h1 h2
  ·-- vn value
   rename_i n e
   cases gR:P.info? e with
   | none=>simp[gR]at hc
   | some ei =>
    cases zi:P.underlying e with
    | none=>simp[gR,zi]at hc
    | some d =>
     simp[gR,zi]at hc;subst hc
     simp only[ae]at he
     generalize x.ev R=tx at hx he
     cases tx<;>(try simp only[reduceCtorEq]at he)
     cases hn:aR (i.ev R)with
     | none=>simp[hn]at he
     | some m =>
      simp only[hn]at he
      split at he
      ·rename_i cQ
       simp only[Option.map_eq_some_iff,Prod.mk.injEq]at he
       obtain⟨t',h1,rfl,rfl⟩:=he
       exact uH hu zi gR rfl h hx hi hn cQ.1 cQ.2 h1
      ·cases he
  ·-- vn address
   rename_i n e
   cases gR:P.info? e with
   | none=>simp[gR]at hc
   | some ei =>
    simp[gR]at hc;subst hc
    simp only[ae]at he
    generalize x.ev R=tx at hx he
    cases tx<;>(try simp only[reduceCtorEq]at he)
    cases hn:aR (i.ev R)with
    | none=>simp[hn]at he
    | some m =>
     simp only[hn]at he
     split at he
     ·rename_i aD
      simp at he
      obtain⟨rfl,rfl⟩:=he
      exact uF hu gR h hx hi hn aD
     ·cases he
theorem cT {x:Option Operand}{y:Option X}(h:dV x=some y)(hv:RV g w R ρ x.toList):OV g w R y (x.map ρ):=by
 cases x with
 | none=>simp[dV]at h;subst h;trivial
 | some x =>
  simp only[dV,Option.map_eq_some_iff]at h
  obtain⟨y',h1,rfl⟩:=h
  exact hv x (by simp) y' h1
theorem vo {ty:TypeId}{v:Value}{x:X}{lo hi mx:Option X}{dK ej qR:Option Value}{b:Bo}(hc:pt P ty x lo hi mx=some b)(h:SR w0 g H w)(hx:VR g w (x.ev R) v)(uK:OV g w R lo dK)(vq:OV g w R hi ej)(wO:OV g w R mx qR)
  (he:ae R H b=some (t,H')):tZ P w0 g H w (do pure (Next.value (←Instr.sliceAt ty v dK ej qR))) t H':=by
 refine aG.fv ?_
 unfold pt at hc
 split at hc
 ·rename_i e JM hu
  cases gR:P.info? e with
  | none=>simp[gR]at hc
  | some ei =>
   simp only[gR,Option.map_some,Option.some.injEq]at hc
   subst hc
   cases dK with
   | some _=>exact uK.elim
   | none=>cases qR with
    | some _=>exact wO.elim
    | none=>cases ej with
     | none=>exact vq.elim
     | some vh =>
      simp only[ae]at he
      generalize x.ev R=tx at hx he
      split at he
      ·rename_i bb off len n' hh EA
       split at he
       ·rename_i cQ
        obtain⟨rfl,h1,h2,h3⟩:=cQ
        simp only[Option.some.injEq,Prod.mk.injEq]at he
        obtain⟨rfl,rfl⟩:=he
        exact uL hu gR h hx vq EA h1 h2 h3
       ·cases he
      ·cases he
 ·cases hc
theorem py {ty:TypeId}{v:Value}{x:X}{lo hi mx:Option X}{dK ej qR:Option Value}{b:Bo}(hc:gn P ty x lo hi mx=some b)(h:SR w0 g H w)(hx:VR g w (x.ev R) v)(uK:OV g w R lo dK)(vq:OV g w R hi ej)(wO:OV g w R mx qR)
  (he:ae R H b=some (t,H')):tZ P w0 g H w (do pure (Next.value (←Instr.sliceAt ty v dK ej qR))) t H':=by
 refine aG.fv ?_
 unfold gn at hc
 cases hu:P.underlying ty with
 | none=>simp[hu]at hc
 | some d =>
  cases d<;>simp only[hu]at hc<;>(try (cases hc;done))
  ·-- string
   cases mx with
   | some _=>simp at hc
   | none =>
    cases qR with
    | some _=>exact wO.elim
    | none =>
     simp at hc;subst hc
     simp only[ae]at he
     generalize x.ev R=tx at hx he
     cases tx<;>(try simp only[reduceCtorEq]at he)
     rename_i s
     cases hl:cX R 0 lo with
     | none=>simp[hl]at he
     | some l =>
      cases hh:cX R s.size hi with
      | none=>simp[hl,hh]at he
      | some r =>
       simp only[hl,hh]at he
       split at he
       ·rename_i cQ
        simp at he
        obtain⟨rfl,rfl⟩:=he
        exact uI hu h hx uK vq hl hh cQ.1 cQ.2
       ·cases he
  ·-- slice
   rename_i e
   cases gR:P.info? e with
   | none=>simp[gR]at hc
   | some ei =>
    simp only[gR]at hc
    split at hc
    ·cases hc
    ·rename_i HY
     simp at hc;subst hc
     simp only[ae]at he
     generalize x.ev R=tx at hx he
     cases tx<;>(try simp only[reduceCtorEq]at he)
     ·rename_i k es
      cases hl:cX R 0 lo with
      | none=>simp[hl]at he
      | some l =>
       cases hh:cX R es.length hi with
       | none=>simp[hl,hh]at he
       | some r =>
        simp only[hl,hh]at he
        cases mx with
        | none =>
         cases qR with
         | some _=>exact wO.elim
         | none =>
          simp only at he
          split at he
          ·rename_i cQ
           simp at he
           obtain⟨rfl,rfl⟩:=he
           exact uJ hu gR h hx uK vq hl hh cQ.1 cQ.2.1 cQ.2.2
          ·cases he
        | some m =>
         cases qR with
         | none=>exact wO.elim
         | some vm =>
          cases hi with
          | none=>simp at HY
          | some hi =>
           cases ej with
           | none=>exact vq.elim
           | some vh =>
            simp only at he
            cases hm:aR (m.ev R)with
            | none=>simp[hm]at he
            | some m' =>
             simp only[hm]at he
             split at he
             ·rename_i cQ
              simp only[Option.some.injEq,Prod.mk.injEq]at he
              obtain⟨rfl,rfl⟩:=he
              exact qw hu gR h hx uK vq wO hl hh hm cQ.1 cQ.2.1 cQ.2.2.1 cQ.2.2.2
             ·cases he
     ·rename_i bb off len n'
      cases hl:cX R 0 lo with
      | none=>simp[hl]at he
      | some l =>
       cases hh:cX R len hi with
       | none=>simp[hl,hh]at he
       | some r =>
        simp only[hl,hh]at he
        cases mx with
        | some _=>simp at he
        | none =>
         cases qR with
         | some _=>exact wO.elim
         | none =>
          simp only at he
          split at he
          ·rename_i cQ
           obtain⟨rfl,h1,h2⟩:=cQ
           simp only[Option.some.injEq,Prod.mk.injEq]at he
           obtain⟨rfl,rfl⟩:=he
           exact qx hu gR h hx uK vq hl hh h1 h2
          ·cases he
     ·rename_i bb off len n' cc
      cases hl:cX R 0 lo with
      | none=>simp[hl]at he
      | some l =>
       cases hh:cX R len hi with
       | none=>simp[hl,hh]at he
       | some r =>
        simp only[hl,hh]at he
        cases mx with
        | some _=>simp at he
        | none =>
         cases qR with
         | some _=>exact wO.elim
         | none =>
          simp only at he
          split at he
          ·rename_i cQ
           obtain⟨rfl,h1,h2⟩:=cQ
           simp only[Option.some.injEq,Prod.mk.injEq]at he
           obtain⟨rfl,rfl⟩:=he
           exact qy hu gR h hx uK vq hl hh h1 h2
          ·cases he
theorem vt {src dst e:TypeId}{s:ByteArray}(hs:P.underlying src=some .string)(hd:P.underlying dst=some (.slice e))(he:P.underlying e=some (.int .u8))(h:SR w0 g H w) :
  aG P w0 g H w (convert src dst (.string s)) (.sl .arg (s.data.toList.map fun c=>[.int .u8 c.toNat])) H:=by
 have aJ:=run_bytes_of_string w src dst e s hs hd he
 have p6:=grownCap_ge w s.size 0 e
 generalize grownCap w s.size 0 e=cap at aJ p6
 have gI:(s.data.toList.map fun c=>[T.int .u8 c.toNat]).flatten=s.data.toList.map fun c=>T.int .u8 c.toNat:=by
  generalize s.data.toList=l
  induction l with
  | nil=>rfl
  | cons c l ih=>simp only[List.map_cons,List.flatten_cons,ih];rfl
 have hlen:(s.data.toList.map fun c=>[T.int .u8 c.toNat]).length=s.size:=by rw[List.length_map,Array.length_toList];rfl
 obtain⟨le,sr,fr,cI⟩:=h.AE (c:=bytesRow s cap) (ty:=e) (fr:=((bytesRow s cap).size,(bytesRow s cap).size+1)) (Tr.drew w) rfl
 refine⟨_,_,_,aJ,le,sr,?_,fr⟩
 have:=VR.gg (g:=g.row w.heap.size fun _=>.cI) (w:=w.drew.alloc (.cells (bytesRow s cap) e ((bytesRow s cap).size,(bytesRow s cap).size+1))) (k:=.arg) (es:=s.data.toList.map fun c=>[T.int .u8 c.toNat]) (r:=w.heap.size) (o:=0) (cap:=cap) (n:=1)
  (vs:=s.data.toList.map fun c=>Value.int .u8 c.toNat) (by intro c hc;obtain⟨b,_,rfl⟩:=List.mem_map.1 hc;rfl) (by
   rw[gI]
   refine⟨by simp,fun i t v a b=>?_⟩
   rw[List.getElem?_map]at a b
   cases hc:s.data.toList[i]? with
   | none=>rw[hc]at a;cases a
   | some c=>rw[hc]at a b;cases a;cases b;exact .int _ _)
  (by rw[gI];intro t ht;obtain⟨c,_,rfl⟩:=List.mem_map.1 ht;rfl) (by rw[hlen];exact p6) trivial (fun j v hj=>by
   rw[Nat.zero_add]
   refine cI j v ?_
   have aD:j<s.data.size:=by have:=(List.getElem?_eq_some_iff.1 hj).1;simpa using this
   unfold bytesRow
   rw[Array.getElem?_append_left (by simpa using aD)]
   rw[←hj];simp)
 rw[hlen]at this
 exact this
theorem iB (w:World)(a:Addr)(n r:Nat)(hr:r≠a.block):(w.freeze a n).heap[r]?=w.heap[r]?:=by
 unfold World.freeze
 split
 ·rfl
 ·simp only[Array.getElem?_modify]
  rw[if_neg (fun e=>hr e.symm)]
theorem pz (w:World)(a:Addr)(n:Nat){c:Array Value}{t:TypeId}(h:w.heap[a.block]?=some (.cells c t))(hn:n≠0):(w.freeze a n).heap[a.block]?=some (.cells c t (a.off,a.off+n)):=by
 unfold World.freeze
 rw[if_neg hn]
 simp only[Array.getElem?_modify,if_true,h]
 rfl
theorem lJ (w:World)(a:Addr)(n r j:Nat){c:Array Value}{t:TypeId}(h:w.heap[a.block]?=some (.cells c t))(hn:n≠0):(w.freeze a n).cell? ⟨r,j,none⟩=w.cell? ⟨r,j,none⟩:=by
 unfold World.cell?
 by_cases hr:r=a.block
 ·subst hr
  simp only[pz w a n h hn,h]
 ·simp only[iB w a n r hr]
theorem vu {ty e:TypeId}{b len:Nat}{cs:List T}{v:Value}(hd:P.underlying ty=some (.slice e))(he:P.underlying e=some (.int .u8))(h:SR w0 g H w)(hv:VR g w (.aQ b 0 len 1) v)(hb:H[b]?=some (.lit cs))(hl:len=cs.length) :
  aG P w0 g H w (convert ty ty v) (.sl .arg (cs.map fun c=>[c])) (H.set b .dead):=by
 obtain⟨r,q,dR,h1,h2,c,t0,h3,h4,h5,h6⟩:=h.dy b _ hb
 cases hv with
 | aQ hφ hc hq =>
 rename_i r1 o1 q1 cap
 rw[hφ]at dR;cases dR
 have fp:b<H.length:=(List.getElem?_eq_some_iff.1 hb).1
 have aJ:(convert ty ty (.slice (some ⟨r,0+0,none⟩) len cap)).run P w=.ok (.slice (some ⟨r,0+0,none⟩) len cap) (w.freeze ⟨r,q,none⟩ 1):=by
  have A0:w.shape? r=some (t0,c.size):=by unfold World.shape?;rw[h3]
  simp[convert,run_underlying hd,run_underlying he,markStringish,Sem.run,shape,freeze,A0,h4]
 have cM:∀r' j,(w.freeze ⟨r,q,none⟩ 1).cell? ⟨r',j,none⟩=w.cell? ⟨r',j,none⟩:=fun r' j=>lJ w ⟨r,q,none⟩ 1 r' j h3 (by decide)
 have jo:∀r',r'≠r→(w.freeze ⟨r,q,none⟩ 1).heap[r']?=w.heap[r']?:=fun r' hr=>iB w ⟨r,q,none⟩ 1 r' hr
 have wP:(w.freeze ⟨r,q,none⟩ 1).heap.size=w.heap.size:=by unfold World.freeze;simp
 have le:Le g w g (w.freeze ⟨r,q,none⟩ 1):=⟨fun _ _ h=>h,fun _ _ h=>h,fun _ _ _ h=>h,fun r' o v _ hh=>by rw[cM];exact hh,rfl⟩
 have tr:D8 w (w.freeze ⟨r,q,none⟩ 1) (fun r' j=>r'=r∧j=q) (fun _=>False):=by
  refine⟨by rw[wP];exact Nat.le_refl _,fun r' j _ _=>cM r' j,fun r' j _ hh=>by rw[cM];exact hh,fun r' x _ hx hh=>?_,fun r' _ _ hn=>?_,by unfold World.freeze;rfl,by unfold World.freeze;rfl⟩
  ·by_cases hr:r'=r
   ·subst hr;rw[h3]at hh;cases hh;cases hx
   ·rw[jo r' hr];exact hh
  ·by_cases hr:r'=r
   ·exact absurd ⟨hr,rfl⟩ (hn q)
   ·exact jo r' hr
 refine⟨_,_,g,aJ,le,?_,?_,⟨by simp,fun b' y a _ d=>⟨bF a (by rintro rfl;rw[hφ]at d;cases d),d⟩⟩⟩
 ·refine h.wH (fun b'=>b'=b) tr (fun r' j j0 b' _ cY hk=>?_) le (fun r' j hs=>.inr (.inl ⟨b,by rw[hs.1,hs.2];exact h1,rfl⟩)) (fun _ hm=>hm.elim) (fun r' o hr=>h.fresh r' o (by rwa[wP]at hr)) (fun b' x hx=>by rw[List.length_set];exact h.gG b' x hx)
   (fun t e x hx=>by rw[List.length_set];exact h.cd t e x hx) (fun _ _ _=>rfl) (fun _ _ _ _=>⟨id,id⟩) (fun _ _ _ _=>rfl) (fun b' x hx=>?_)
  ·by_cases hr:r'=r
   ·subst hr
    by_cases hj:j=q
    ·subst hj
     rcases hk with hk|hk<;>rw[h1]at hk<;>cases hk
     exact absurd rfl cY
    ·rcases hk with hk|hk<;>rw[h2 j hj]at hk<;>cases hk
   ·unfold World.frozen?;rw[jo r' hr]
  ·rcases bj fp hx with⟨rfl,rfl⟩|⟨aF,et⟩
   ·right;trivial
   ·exact .inl ⟨aF,et⟩
 ·have gI:(cs.map fun c=>[c]).flatten=cs:=by
   clear h6 h5 hl hb
   induction cs with
   | nil=>rfl
   | cons c l ih=>simp only[List.map_cons,List.flatten_cons,ih];rfl
  have hlen:(cs.map fun c=>[c]).length=len:=by rw[List.length_map];exact hl.symm
  have:=VR.gg (g:=g) (w:=w.freeze ⟨r,q,none⟩ 1) (k:=.arg) (es:=cs.map fun c=>[c]) (r:=r) (o:=0+0) (cap:=cap) (n:=1) (vs:=c.toList)
   (by intro c hc;obtain⟨b,_,rfl⟩:=List.mem_map.1 hc;rfl) (by
    rw[gI]
    refine⟨by have:=Array.length_toList (xs:=c);omega,fun i t v a bb=>?_⟩
    obtain⟨_,v',k1,k2⟩:=h6 i t a
    rw[Array.getElem?_toList,k1]at bb;cases bb
    exact k2.mono le)
   (by rw[gI];intro t ht;obtain⟨i,hi⟩:=List.getElem?_of_mem ht;exact(h6 i t hi).1) (by rw[hlen];exact hc) trivial (fun j v hj=>by
    rw[Array.getElem?_toList]at hj
    have aD:j<c.size:=(Array.getElem?_eq_some_iff.1 hj).1
    refine⟨h2 (0+0+j) (by rw[←h4];omega),?_⟩
    rw[cM]
    unfold World.cell?
    simp only[h3,Nat.zero_add]
    exact hj)
  rw[hlen]at this
  exact this
theorem qS {src dst:TypeId}{v:Value}{x:X}{b:Bo}(hc:jL P src dst x=some b)(h:SR w0 g H w)(hx:VR g w (x.ev R) v)(he:ae R H b=some (t,H')):tZ P w0 g H w (do pure (Next.value (←convert src dst v))) t H':=by
 refine aG.fv ?_
 unfold jL at hc
 cases hs:P.underlying src with
 | none=>simp[hs]at hc
 | some ds =>
  cases hd:P.underlying dst with
  | none=>simp[hs,hd]at hc
  | some dd =>
   rw[hs,hd]at hc
   cases ds<;>cases dd<;>simp only[reduceCtorEq]at hc
   ·rename_i k0 k
    simp at hc;subst hc
    simp only[ae]at he
    generalize x.ev R=tx at hx he
    cases tx<;>simp at he
    obtain⟨rfl,rfl⟩:=he
    exact uy hs hd h hx
   ·rename_i e
    cases hu:P.underlying e with
    | none=>simp[hu]at hc
    | some d =>
     have A1:d=.int .u8∧b=.yA false x:=by
      rw[hu]at hc
      cases d with
      | int k=>cases k<;>simp at hc;exact⟨rfl,hc.symm⟩
      | _=>simp at hc
     obtain⟨rfl,rfl⟩:=A1
     simp only[ae]at he
     generalize x.ev R=tx at hx he
     cases hx<;>(try simp only[reduceCtorEq]at he)
     ·split at he
      ·cases he;exact vt hs hd hu h
      ·cases he
     ·rename_i b0 HZ H4 n0 r0 o0 q0 H5 _ _ _
      cases hb:H[b0]? with
      | none=>simp[hb]at he
      | some y=>cases y<;>simp[hb]at he
   ·rename_i e
    cases hu:P.underlying e with
    | none=>simp[hu]at hc
    | some d =>
     have A1:d=.int .u8∧b=.p9 x:=by
      rw[hu]at hc
      cases d with
      | int k=>cases k<;>simp at hc;exact⟨rfl,hc.symm⟩
      | _=>simp at hc
     obtain⟨rfl,rfl⟩:=A1
     simp only[ae]at he
     cases eZ:aH H 1 (x.ev R)with
     | none=>simp[eZ]at he
     | some es =>
      have tU:∀s,x.ev R≠.str s:=by
       intro s e;simp only[e]at he;split at he<;>cases he
      have wK:(bytesOf es).map (fun l=>(T.str ⟨l.toArray⟩,H))=some (t,H'):=by
       simp only[eZ]at he
       generalize x.ev R=tx at he tU
       cases tx<;>first|exact he|exact absurd rfl (tU _)
      simp only[Option.map_eq_some_iff,Prod.mk.injEq]at wK
      obtain⟨l,h1,rfl,rfl⟩:=wK
      exact uB hs hu hd h hx eZ tU h1
   ·rename_i e0 e
    split at hc
    ·rename_i EB
     have EB:src=dst:=by simpa using EB
     subst EB
     cases hu:P.underlying e with
     | none=>simp[hu]at hc
     | some d =>
      have A1:d=.int .u8∧b=.yA true x:=by
       rw[hu]at hc
       cases d with
       | int k=>cases k<;>simp at hc;exact⟨rfl,hc.symm⟩
       | _=>simp at hc
      obtain⟨rfl,rfl⟩:=A1
      simp only[ae]at he
      generalize x.ev R=tx at hx he
      cases tx<;>(try simp only[reduceCtorEq]at he)
      ·simp at he
      rename_i b0 off len n
      cases hb:H[b0]? with
      | none=>simp[hb]at he
      | some y =>
       cases y<;>simp only[hb,reduceCtorEq]at he
       split at he
       ·rename_i hh
        obtain⟨_,rfl,rfl,hl⟩:=hh
        cases he
        exact vu hd hu h hx hb hl
       ·cases he
    ·cases hc
end
section
variable {P:Program} {w0 w:World} {g:Ctx} {H H':aa} {R:ai} {ρ:Operand→Value} {t:T}
theorem cm {ty:TypeId}{z:List T}(h:zeroOf P ty=some z):∃i zv,P.info? ty=some i∧i.zero=some zv∧bP zv.cells.toList=some z:=by
 unfold zeroOf at h
 cases h1:P.info? ty with
 | none=>simp[h1]at h
 | some i =>
  simp only[h1]at h
  cases h2:i.zero with
  | none=>simp[h2]at h
  | some zv=>simp only[h2]at h;exact⟨i,zv,rfl,h2,h⟩
theorem nu {dt:List TypeId}{rt:TypeId}{mu:Bool}{aq:List X}{vs:List Value}{b:Bo}(hc:eP P mu dt aq=some b)(h:SR w0 g H w)(hv:ay g w (aq.map (X.ev R)) vs)(he:ae R H b=some (t,H')) :
  aG P w0 g H w (Builtin.append_ dt.toArray rt vs.toArray) t H':=by
 unfold eP at hc
 split at hc
 ·rename_i sT xT x y
  cases vs with
  | nil=>have:=hv.1;simp at this
  | cons vx vs =>
   cases vs with
   | nil=>have:=hv.1;simp at this
   | cons vy vs =>
    cases vs with
    | cons _ _=>have:=hv.1;simp at this
    | nil =>
     have hx:VR g w (x.ev R) vx:=hv.head
     have hy:VR g w (y.ev R) vy:=hv.tail.head
     cases hs:P.underlying sT with
     | none=>simp[hs]at hc
     | some ds =>
      cases u5:P.underlying xT with
      | none=>cases ds<;>simp[hs,u5]at hc
      | some dx =>
       cases ds<;>simp only[hs,u5]at hc<;>(try (cases hc;done))
       rename_i e
       cases hi:P.info? e with
       | none=>simp[hi]at hc
       | some ei =>
        simp only[hi]at hc
        cases hz:ei.zero with
        | none=>simp[hz]at hc
        | some zv =>
         simp only[hz]at hc
         split at hc
         ·rename_i aC
          simp only[Bool.and_eq_true,beq_iff_eq,bne_iff_ne]at aC
          simp at hc;subst hc
          have E:gh P sT xT e ei zv ei.size ei.bytes:=⟨hs,hi,⟨dx,u5,fun k e=>by subst e;simp[qP]at aC⟩,rfl,hz,aC.1.2,rfl,aC.2⟩
          simp only[ae]at he
          cases jm:aH H ei.size (y.ev R)with
          | none=>simp[jm]at he
          | some new =>
           simp only[jm]at he
           cases mu with
           | true =>
            simp only[if_true]at he
            exact qG E h hx.Aa hy jm he
           | false =>
            simp only[Bool.false_eq_true,if_false]at he
            generalize x.ev R=tx at hx he
            cases tx<;>(try simp only[reduceCtorEq]at he)
            split at he
            ·rename_i ey
             exact uU E h hx hy ey jm he
            ·cases he
         ·cases hc
 ·cases hc
theorem vz {dt:List TypeId}{rt:TypeId}{aq:List X}{vs:List Value}{b:Bo}(hc:lH P dt aq=some b)(h:SR w0 g H w)(hv:ay g w (aq.map (X.ev R)) vs)(he:ae R H b=some (t,H')) :
  aG P w0 g H w (Builtin.append_ dt.toArray rt vs.toArray) t H':=by
 unfold lH at hc
 split at hc
 ·rename_i sT xT x k
  cases vs with
  | nil=>have:=hv.1;simp at this
  | cons vx vs =>
   cases vs with
   | nil=>have:=hv.1;simp at this
   | cons vk vs =>
    cases vs with
    | cons _ _=>have:=hv.1;simp at this
    | nil =>
     have hx:VR g w (x.ev R) vx:=hv.head
     have hk:VR g w (k.ev R) vk:=hv.tail.head
     cases hs:P.underlying sT with
     | none=>simp[hs]at hc
     | some ds =>
      cases u5:P.underlying xT with
      | none=>cases ds<;>simp[hs,u5]at hc
      | some dx =>
       cases ds<;>cases dx<;>simp only[hs,u5]at hc<;>(try (cases hc;done))
       rename_i e kn
       cases hi:P.info? e with
       | none=>simp[hi]at hc
       | some ei =>
        cases hz:zeroOf P e with
        | none=>simp[hi,hz]at hc
        | some z =>
         simp only[hi,hz]at hc
         split at hc
         ·rename_i aC
          simp only[bne_iff_ne,ne_eq]at aC
          simp only[Option.some.injEq]at hc;subst hc
          obtain⟨i,zv,h1,h2,h3⟩:=cm hz
          rw[hi]at h1;cases h1
          simp only[ae,Option.bind_eq_some_iff]at he
          obtain⟨kk,jF,he⟩:=he
          generalize k.ev R=tk at hk jF
          cases hk<;>simp only[aR]at jF<;>(try (cases jF;done))
          rename_i kq m
          split at jF
          ·rename_i hm
           simp only[Option.some.injEq]at jF
           subst jF
           have:=u4 (rt:=rt) (kq:=kq) hs u5 hi h2 h3 aC h hx he
           rw[Int.toNat_of_nonneg hm]at this
           exact this
          ·cases jF
         ·cases hc
 ·cases hc
theorem vA {f:FuncId}{n:Nat}{x y:X}{args:Array Operand}{ρ:Operand→Value}(mO:n9 P f=some n)(h:SR w0 g H w)(fX:ay g w ([x,y].map (X.ev R)) (args.toList.map ρ))(he:qf H n (x.ev R) (y.ev R)=some (t,H')) :
  tZ P w0 g H w (callFunc f (args.map ρ)) t H':=by
 unfold n9 at mO
 cases hf:P.funcs[f]? with
 | none=>simp[hf]at mO
 | some fn =>
  simp only[hf]at mO
  cases hp:fn.params[0]? with
  | none=>simp[hp]at mO
  | some tS =>
   simp only[hp]at mO
   cases ht:P.underlying tS with
   | none=>simp[ht]at mO
   | some d =>
    cases d<;>simp only[ht]at mO<;>(try (cases mO;done))
    rename_i e
    cases hi:P.info? e with
    | none=>simp[hi]at mO
    | some ei =>
     simp only[hi]at mO
     split at mO
     ·rename_i hc
      simp only[Option.some.injEq]at mO;subst mO
      simp only[Bool.and_eq_true,wN,Option.isNone_iff_eq_none,beq_iff_eq,bne_iff_ne,ne_eq]at hc
      obtain⟨⟨⟨⟨c1,c2⟩,c3⟩,c4⟩,⟨c5,c6⟩,c7⟩:=hc
      have A2:Extern.find fn=some (Extern.SlicesOverlaps.overlaps fn.params fn.resultTypes):=by
       have r1:Extern.allGenericRows.lookup "slices.overlaps"=none:=by kernel_rfl
       have r2:Extern.allTypedRows.lookup "slices.overlaps"=some Extern.SlicesOverlaps.overlaps:=by kernel_rfl
       unfold Extern.find
       simp only[c4,c5,c6,c7,r1,r2,Option.map_none,Option.map_some]
       rfl
      cases ha:args.toList.map ρ with
      | nil=>rw[ha]at fX;have:=fX.1;simp at this
      | cons vx vs =>
       cases vs with
       | nil=>rw[ha]at fX;have:=fX.1;simp at this
       | cons vy vs =>
        cases vs with
        | cons _ _=>rw[ha]at fX;have:=fX.1;simp at this
        | nil =>
         rw[ha]at fX
         have hx:VR g w (x.ev R) vx:=fX.head
         have hy:VR g w (y.ev R) vy:=fX.tail.head
         have fM:args.map ρ=#[vx,vy]:=by apply Array.ext';simp[ha]
         obtain⟨v,w',g',h1,h2,h3,h4,h5⟩:=u6 (results:=fn.resultTypes) hp ht hi h hx hy he
         refine⟨.value v,v,w',g',?_,.inl rfl,h2,h3,h4,h5⟩
         rw[fM,run_callFunc_extern hf (by simpa using c1) (by simp[c2]) c3 A2,h1]
         rfl
     ·cases mO
theorem lK {bi:Builtin}{dt:List TypeId}{rt:TypeId}{cs:Array Bool}{mu:Bool}{aq:List X}{vs:List Value}{b:Bo}(hc:dF P mu bi dt aq=some b)(h:SR w0 g H w)(hv:ay g w (aq.map (X.ev R)) vs)(he:ae R H b=some (t,H')) :
  tZ P w0 g H w (builtin bi dt.toArray rt cs vs.toArray) t H':=by
 have two:∀(x y:X),aq=[x,y]→∃vx vy,vs=[vx,vy]∧VR g w (x.ev R) vx∧VR g w (y.ev R) vy:=by
  rintro x y rfl
  cases vs with
  | nil=>have:=hv.1;simp at this
  | cons vx vs =>
   cases vs with
   | nil=>have:=hv.1;simp at this
   | cons vy vs =>
    cases vs with
    | cons _ _=>have:=hv.1;simp at this
    | nil=>exact⟨vx,vy,rfl,hv.head,hv.tail.head⟩
 unfold dF at hc
 split at hc
 ·cases hz:lH P dt aq with
  | some b'=>rw[hz]at hc;simp only[Option.some.injEq]at hc;subst hc;exact(vz hz h hv he).fv
  | none=>rw[hz]at hc;exact(nu hc h hv he).fv
 ·-- cap
  rename_i ty x
  cases vs with
  | nil=>have:=hv.1;simp at this
  | cons vx vs =>
   cases vs with
   | cons _ _=>have:=hv.1;simp at this
   | nil =>
    have hx:VR g w (x.ev R) vx:=hv.head
    cases hu:P.underlying ty with
    | none=>simp[hu]at hc
    | some d =>
     cases d<;>simp only[hu]at hc<;>(try (cases hc;done))
     simp only[Option.some.injEq]at hc;subst hc
     simp only[ae]at he
     generalize x.ev R=tx at hx he
     cases tx<;>simp only[reduceCtorEq,Option.some.injEq,Prod.mk.injEq]at he
     obtain⟨rfl,rfl⟩:=he
     exact(u1 hu h hx).fv
 ·-- copy
  rename_i dT sT x y
  obtain⟨vx,vy,rfl,hx,hy⟩:=two x y rfl
  cases hu:P.underlying dT with
  | none=>simp[hu]at hc
  | some d =>
   cases d<;>simp only[hu]at hc<;>(try (cases hc;done))
   rename_i e
   cases hi:P.info? e with
   | none=>simp[hi]at hc
   | some ei =>
    simp only[hi,Option.map_some,Option.some.injEq]at hc;subst hc
    simp only[ae]at he
    exact(u2 hu hi h hx hy he).fv
 ·-- len
  rename_i ty x
  cases vs with
  | nil=>have:=hv.1;simp at this
  | cons vx vs =>
   cases vs with
   | cons _ _=>have:=hv.1;simp at this
   | nil =>
    have hx:VR g w (x.ev R) vx:=hv.head
    cases hu:P.underlying ty with
    | none=>simp[hu]at hc
    | some d =>
     have hl:∃k,Eb k d=true∧b=.len k x:=by
      cases d<;>simp[hu]at hc
      ·exact⟨.str,rfl,hc.symm⟩
      ·exact⟨.sl,rfl,hc.symm⟩
      ·exact⟨.map,rfl,hc.symm⟩
     obtain⟨k,hk,rfl⟩:=hl
     simp only[ae,Option.map_eq_some_iff,Prod.mk.injEq]at he
     obtain⟨n,h1,rfl,rfl⟩:=he
     exact(uz hu hk h hx h1).fv
 ·-- clear
  rename_i ty x
  cases vs with
  | nil=>have:=hv.1;simp at this
  | cons vx vs =>
   cases vs with
   | cons _ _=>have:=hv.1;simp at this
   | nil =>
    have hx:VR g w (x.ev R) vx:=hv.head
    cases hu:P.underlying ty with
    | none=>simp[hu]at hc
    | some d =>
     cases d<;>simp only[hu]at hc<;>(try (cases hc;done))
     rename_i e
     cases hi:P.info? e with
     | none=>simp[hi]at hc
     | some ei =>
      cases hz:zeroOf P e with
      | none=>simp[hi,hz]at hc
      | some z =>
       simp only[hi,hz,Option.some.injEq]at hc;subst hc
       obtain⟨i,zv,k1,k2,k3⟩:=cm hz
       rw[hi]at k1;cases k1
       simp only[ae]at he
       generalize x.ev R=tx at hx he
       cases tx<;>(try (simp only[reduceCtorEq]at he;done))
       rename_i bb off len n'
       simp only at he
       cases hb:H[bb]? with
       | none=>simp[hb]at he
       | some y =>
        cases y<;>simp only[hb]at he<;>(try (cases he;done))
        rename_i H6
        split at he
        ·rename_i kF
         obtain⟨rfl,lF,hle⟩:=kF
         simp only[Option.some.injEq,Prod.mk.injEq]at he
         obtain⟨rfl,rfl⟩:=he
         exact(vg hu hi k2 k3 h hx hb lF hle).fv
        ·cases he
 ·rename_i x y
  obtain⟨vx,vy,rfl,hx,hy⟩:=two x y rfl
  simp at hc;subst hc
  simp only[ae]at he
  generalize x.ev R=tx at hx he
  generalize y.ev R=zh at hy he
  cases tx<;>cases zh<;>simp only[reduceCtorEq,Option.some.injEq,Prod.mk.injEq]at he
  obtain⟨rfl,rfl⟩:=he
  exact(yT h hx hy).fv
 ·rename_i x y
  obtain⟨vx,vy,rfl,hx,hy⟩:=two x y rfl
  simp at hc;subst hc
  simp only[ae]at he
  generalize x.ev R=tx at hx he
  generalize y.ev R=zh at hy he
  cases tx<;>cases zh<;>simp only[reduceCtorEq,Option.some.injEq,Prod.mk.injEq]at he
  obtain⟨rfl,rfl⟩:=he
  exact(yU h hx hy).fv
 ·-- delete
  rename_i ty xt m k
  obtain⟨vm,vk,rfl,hm,hk⟩:=two m k rfl
  cases hu:P.underlying ty with
  | none=>simp[hu]at hc
  | some d =>
   cases d<;>simp only[hu]at hc<;>(try (cases hc;done))
   rename_i key elem
   cases dU:kH P key with
   | none=>simp[dU]at hc
   | some kt =>
    simp only[dU]at hc
    split at hc
    ·rename_i lu
     simp at hc;subst hc
     simp only[ae]at he
     generalize m.ev R=tm at hm he
     cases tm<;>(try simp only[reduceCtorEq]at he)
     rename_i bb
     split at he
     ·rename_i mZ
      cases hb:H[bb]? with
      | none=>simp[hb]at he
      | some z =>
       cases z<;>simp only[hb]at he<;>(try (cases he;done))
       rename_i es
       cases hr:bm (k.ev R) es with
       | none=>simp[hr]at he
       | some r =>
        have:=uQ (rt:=rt) (xt:=xt) hu lu h hm hk mZ hb hr
        cases r with
        | none=>simp only[hr,Option.some.injEq,Prod.mk.injEq]at he;obtain⟨rfl,rfl⟩:=he;exact this.fv
        | some i=>simp only[hr,Option.some.injEq,Prod.mk.injEq]at he;obtain⟨rfl,rfl⟩:=he;exact this.fv
     ·cases he
    ·cases hc
 ·cases hc
theorem ob {ty:TypeId}{m k:X}{e:Nat}{kt:KT}{z:T}(h:nr P ty m k=some (e,kt,z)):∃key ei zv,P.underlying ty=some (.map key e)∧P.info? e=some ei∧ei.zero=some zv∧fm zv=some z∧fo P key kt=true:=by
 unfold nr at h
 cases hu:P.underlying ty with
 | none=>simp[hu]at h
 | some d =>
  cases d<;>simp only[hu]at h<;>(try (cases h;done))
  rename_i key e'
  cases h1:kH P key with
  | none=>simp[h1]at h
  | some JN =>
   cases h2:P.info? e' with
   | none=>simp[h1,h2]at h
   | some ei =>
    simp only[h1,h2]at h
    cases h3:ei.zero with
    | none=>simp[h3]at h
    | some zv =>
     simp only[h3]at h
     cases h4:fm zv with
     | none=>simp[h4]at h
     | some z' =>
      simp only[h4]at h
      split at h
      ·rename_i lu
       simp at h
       obtain⟨rfl,rfl,rfl⟩:=h
       exact⟨key,ei,zv,rfl,h2,h3,h4,lu⟩
      ·cases h
theorem oc {ty:TypeId}{m k v:X}{vm vk vv:Value}{e:Nat}{kt:KT}{z:T}(hc:nr P ty m k=some (e,kt,z))(h:SR w0 g H w)(hm:VR g w (m.ev R) vm)(hk:VR g w (k.ev R) vk)(hv:VR g w (v.ev R) vv)(he:ae R H (.tR kt m k v)=some (t,H')) :
  tZ P w0 g H w (do Instr.mapUpdate ty vm vk vv;pure Next.skip) t H':=by
 obtain⟨key,ei,zv,hu,hi,hz,je,lu⟩:=ob hc
 simp only[ae]at he
 generalize m.ev R=tm at hm he
 cases tm<;>(try simp only[reduceCtorEq]at he)
 rename_i bb
 split at he
 ·rename_i mZ
  cases hb:H[bb]? with
  | none=>simp[hb]at he
  | some y =>
   cases y<;>simp only[hb]at he<;>(try (cases he;done))
   rename_i es
   cases hr:bm (k.ev R) es with
   | none=>simp[hr]at he
   | some r =>
    obtain⟨w',g',h1,h2,h3,h4⟩:=uP hu lu h hm hk hv mZ hb hr
    cases r with
    | none=>simp only[hr,Option.some.injEq,Prod.mk.injEq]at he;obtain⟨rfl,rfl⟩:=he;exact⟨.skip,undef,w',g',by simp[h1],.inr ⟨rfl,rfl⟩,h2,h3,da,h4⟩
    | some i=>simp only[hr,Option.some.injEq,Prod.mk.injEq]at he;obtain⟨rfl,rfl⟩:=he;exact⟨.skip,undef,w',g',by simp[h1],.inr ⟨rfl,rfl⟩,h2,h3,da,h4⟩
 ·cases he
theorem vB {ty:TypeId}{m k:X}{vm vk:Value}{e:Nat}{kt:KT}{z:T}{ok:Bool}(hc:nr P ty m k=some (e,kt,z))(h:SR w0 g H w)(hm:VR g w (m.ev R) vm)(hk:VR g w (k.ev R) vk)(he:ae R H (.mK kt z ok m k)=some (t,H')) :
  aG P w0 g H w (Instr.lookup ty vm vk ok) t H':=by
 obtain⟨key,ei,zv,hu,hi,hz,je,lu⟩:=ob hc
 simp only[ae]at he
 split at he
 ·rename_i mZ
  cases eZ:cu H (m.ev R)with
  | none=>simp[eZ]at he
  | some es =>
   simp only[eZ]at he
   cases hr:bm (k.ev R) es with
   | none=>simp[hr]at he
   | some r =>
    cases r with
    | none =>
     simp only[hr,Option.some.injEq,Prod.mk.injEq]at he
     obtain⟨rfl,rfl⟩:=he
     exact nZ hu hi hz je lu h hm hk mZ eZ hr rfl
    | some i =>
     simp only[hr]at he
     cases hx:es[i]? with
     | none=>simp[hx]at he
     | some x =>
      simp only[hx,Option.some.injEq,Prod.mk.injEq]at he
      obtain⟨rfl,rfl⟩:=he
      exact nZ hu hi hz je lu h hm hk mZ eZ hr (by simp[hx])
 ·cases he
theorem pA {ty:TypeId}{ps:List (Nat×X)}{pv:List (Nat×Value)}{b:Bo}(hc:gp P ty ps=some b)(h:SR w0 g H w)(hv:PV g w R ps pv)(he:ae R H b=some (t,H')):aG P w0 g H w (Instr.build ty pv.toArray) t H':=by
 unfold gp at hc
 cases hu:P.underlying ty with
 | none=>simp[hu]at hc
 | some d =>
  cases hz:zeroOf P ty with
  | none=>cases d<;>simp[hu,hz]at hc
  | some z =>
   cases d<;>simp only[hu,hz]at hc<;>(try (cases hc;done))
   rename_i fs
   split at hc
   ·rename_i aC
    simp only[Bool.and_eq_true]at aC
    simp only[Option.some.injEq]at hc;subst hc
    obtain⟨i,zv,h1,h2,h3⟩:=cm hz
    simp only[ae]at he
    split at he
    ·rename_i l hl
     simp only[Option.map_eq_some_iff,Prod.mk.injEq]at he
     obtain⟨cs,h4,rfl,rfl⟩:=he
     refine pn hu h1 h2 h3 (fun f hf=>?_) (fun p hp=>?_) h hv hl h4
     ·have:=aC.1
      simp only[lI,List.all_eq_true]at this
      exact Option.isSome_iff_exists.1 (this f hf)
     ·have:=aC.2
      simp only[List.all_eq_true,decide_eq_true_eq]at this
      exact this p hp
    ·cases he
   ·cases hc
theorem vC {ty:TypeId}{n:Nat}{ps:List (Nat×X)}{pv:List (Nat×Value)}{b:Bo}{mu:Bool}(hc:pw P mu ty n ps=some b)(h:SR w0 g H w)(hv:PV g w R ps pv)(he:ae R H b=some (t,H')):aG P w0 g H w (Instr.buildSlice ty n pv.toArray) t H':=by
 unfold pw at hc
 cases hu:P.underlying ty with
 | none=>simp[hu]at hc
 | some d =>
  cases d<;>simp only[hu]at hc<;>(try (cases hc;done))
  rename_i e
  cases hi:P.info? e with
  | none=>simp[hi]at hc
  | some ei =>
   cases hz:zeroOf P e with
   | none=>simp[hi,hz]at hc
   | some z =>
    simp only[hi,hz]at hc
    split at hc
    ·rename_i aC
     simp only[Bool.and_eq_true,beq_iff_eq,decide_eq_true_eq]at aC
     simp at hc;subst hc
     obtain⟨i,zv,h1,h2,h3⟩:=cm hz
     rw[hi]at h1;cases h1
     cases mu with
     | false =>
      simp only[Bool.false_eq_true,if_false,ae,Option.map_eq_some_iff,Prod.mk.injEq]at he
      obtain⟨fs,h4,rfl,rfl⟩:=he
      exact uY hu hi h2 h3 aC.1 aC.2 h hv h4
     | true =>
      simp only[if_true,ae,Option.bind_eq_some_iff]at he
      obtain⟨fs,h4,he⟩:=he
      split at he
      ·simp only[Option.some.injEq,Prod.mk.injEq]at he
       obtain⟨rfl,rfl⟩:=he
       exact u3 hu hi h2 h3 aC.1 aC.2 h hv h4
      ·cases he
    ·cases hc
theorem vD {ty:TypeId}{mu:Bool}{l c:X}{vl vc:Value}{b:Bo}(hc:px P mu ty l c=some b)(h:SR w0 g H w)(hl:VR g w (l.ev R) vl)(tY:VR g w (c.ev R) vc)(he:ae R H b=some (t,H')):aG P w0 g H w (Instr.makeSlice ty vl vc) t H':=by
 unfold px at hc
 cases hu:P.underlying ty with
 | none=>simp[hu]at hc
 | some d =>
  cases d<;>simp only[hu]at hc<;>(try (cases hc;done))
  rename_i e
  cases hi:P.info? e with
  | none=>simp[hi]at hc
  | some ei =>
   cases hz:zeroOf P e with
   | none=>simp[hi,hz]at hc
   | some z =>
    simp only[hi,hz]at hc
    split at hc
    ·rename_i aC
     simp only[Bool.and_eq_true,beq_iff_eq,bne_iff_ne]at aC
     simp at hc;subst hc
     obtain⟨i,zv,h1,h2,h3⟩:=cm hz
     rw[hi]at h1;cases h1
     simp only[ae]at he
     cases DL:aR (l.ev R)with
     | none=>simp[DL]at he
     | some nl =>
      cases EC:aR (c.ev R)with
      | none=>simp[DL,EC]at he
      | some nc =>
       simp only[DL,EC]at he
       split at he
       ·rename_i cQ
        refine uZ (mu:=mu) hu hi h2 h3 aC.1 aC.2 h hl tY DL EC cQ.1 cQ.2.1 cQ.2.2 ?_
        cases mu with
        | true=>simpa using he
        | false =>
         simp only[Bool.false_eq_true,if_false]at he ⊢
         split at he
         ·rename_i e0;rw[if_pos e0];simpa using he
         ·rename_i e0;rw[if_neg e0];simpa using he
       ·cases he
    ·cases hc
theorem RV.get {xs:List Operand}(h:RV g w R ρ xs){x:Operand}{y:X}(hx:x∈xs)(hc:aj x=some y):VR g w (y.ev R) (ρ x):=h x hx y hc
theorem zj {mu:Bool}{o:Oper}{b:Bo}(hρ:∀f:FuncId,ρ (.func f)=.func (.func f) #[] #[])(hc:aB P mu o.op=some b)(h:SR w0 g H w)(hv:RV g w R ρ o.op.operands.toList)(he:ae R H b=some (t,H')):tZ P w0 g H w (execOp ρ o) t H':=by
 obtain⟨dst,op,ty,pos,after,guard⟩:=o
 cases op<;>simp only[aB]at hc<;>(try (cases hc;done))<;>simp only[Op.operands]at hv
 case move x =>
  simp only[Option.map_eq_some_iff]at hc
  obtain⟨y,h1,rfl⟩:=hc
  simp only[ae,Option.some.injEq,Prod.mk.injEq]at he
  obtain⟨rfl,rfl⟩:=he
  exact⟨_,_,w,g,rfl,.inl rfl,.refl _ _,h,hv.get (by simp) h1,.refl _ _⟩
 case assign x =>
  simp only[Option.map_eq_some_iff]at hc
  obtain⟨y,h1,rfl⟩:=hc
  simp only[ae,Option.some.injEq,Prod.mk.injEq]at he
  obtain⟨rfl,rfl⟩:=he
  exact⟨_,_,w,g,rfl,.inl rfl,.refl _ _,h,hv.get (by simp) h1,.refl _ _⟩
 case pick c x y =>
  cases h1:aj c with
  | none=>simp[h1]at hc
  | some c' =>
   cases h2:aj x with
   | none=>simp[h1,h2]at hc
   | some x' =>
    cases h3:aj y with
    | none=>simp[h1,h2,h3]at hc
    | some y' =>
     simp only[h1,h2,h3,Option.some.injEq]at hc
     subst hc
     have vc:=hv.get (by simp) h1
     have vx:=hv.get (by simp) h2
     have vy:=hv.get (by simp) h3
     simp only[ae]at he
     generalize c'.ev R=tc at vc he
     cases tc<;>(try simp only[reduceCtorEq]at he)
     simp only[Option.some.injEq,Prod.mk.injEq]at he
     obtain⟨rfl,rfl⟩:=he
     obtain⟨v,w',g',k1,k2⟩:=qt (P:=P) h vc vx vy
     refine⟨.value v,v,w',g',?_,.inl rfl,k2⟩
     simp only[execOp,Sem.run_bind,Sem.run_pure]at k1 ⊢
     generalize (asBool (ρ c)).run P w=r at k1 ⊢
     cases r<;>simp_all
 case alloc jN =>
  simp only[Option.map_eq_some_iff]at hc
  obtain⟨z,h1,rfl⟩:=hc
  obtain⟨i,zv,h2,h3,h4⟩:=cm h1
  simp only[ae,Option.some.injEq,Prod.mk.injEq]at he
  obtain⟨rfl,rfl⟩:=he
  exact(pk h2 h3 h4 h).fv
 case box jN x =>
  simp only[Option.map_eq_some_iff]at hc
  obtain⟨y,h1,rfl⟩:=hc
  simp only[ae,Option.map_eq_some_iff,Prod.mk.injEq]at he
  obtain⟨cs,h2,rfl,rfl⟩:=he
  exact(uN h (hv.get (by simp) h1) h2).fv
 case build jN ps =>
  simp only[Option.bind_eq_some_iff]at hc
  obtain⟨qs,h1,h2⟩:=hc
  have hp:=gq (ρ:=ρ) _ _ h1 (by simpa using hv)
  have:=(pA h2 h hp he).fv
  have e:(ps.map fun x=>(x.1,ρ x.2))=(ps.toList.map fun p=>(p.1,ρ p.2)).toArray:=by apply Array.ext';simp
  simp only[execOp]
  rw[e];exact this
 case buildSlice jN n ps =>
  simp only[Option.bind_eq_some_iff]at hc
  obtain⟨qs,h1,h2⟩:=hc
  have hp:=gq (ρ:=ρ) _ _ h1 (by simpa using hv)
  have:=(vC h2 h hp he).fv
  have e:(ps.map fun x=>(x.1,ρ x.2))=(ps.toList.map fun p=>(p.1,ρ p.2)).toArray:=by apply Array.ext';simp
  simp only[execOp]
  rw[e];exact this
 case insert jN m k v =>
  cases h1:aj m with
  | none=>simp[h1]at hc
  | some m' =>
   cases h2:aj k with
   | none=>simp[h1,h2]at hc
   | some k' =>
    cases h3:aj v with
    | none=>simp[h1,h2,h3]at hc
    | some v' =>
     simp only[h1,h2,h3,Option.map_eq_some_iff]at hc
     obtain⟨⟨e,kt,z⟩,h4,rfl⟩:=hc
     exact oc h4 h (hv.get (by simp) h1) (hv.get (by simp) h2) (hv.get (by simp) h3) he
 case mapUpdate jN m k v =>
  cases h1:aj m with
  | none=>simp[h1]at hc
  | some m' =>
   cases h2:aj k with
   | none=>simp[h1,h2]at hc
   | some k' =>
    cases h3:aj v with
    | none=>simp[h1,h2,h3]at hc
    | some v' =>
     simp only[h1,h2,h3,Option.map_eq_some_iff]at hc
     obtain⟨⟨e,kt,z⟩,h4,rfl⟩:=hc
     exact oc h4 h (hv.get (by simp) h1) (hv.get (by simp) h2) (hv.get (by simp) h3) he
 case load jN x =>
  simp only[Option.bind_eq_some_iff]at hc
  obtain⟨y,h1,h2⟩:=hc
  exact qQ h2 h (hv.get (by simp) h1) he
 case store jN a v =>
  cases h1:P.info? jN with
  | none=>simp[h1]at hc
  | some i =>
   cases h2:aj a with
   | none=>simp[h1,h2]at hc
   | some a' =>
    cases h3:aj v with
    | none=>simp[h1,h2,h3]at hc
    | some v' =>
     simp only[h1,h2,h3,Option.some.injEq]at hc
     subst hc
     simp only[ae]at he
     cases h4:(v'.ev R).cells? with
     | none=>simp[h4]at he
     | some vs =>
      simp only[h4]at he
      split at he
      ·rename_i hn
       simp only[Option.map_eq_some_iff,Prod.mk.injEq]at he
       obtain⟨H1,h5,rfl,rfl⟩:=he
       obtain⟨w',g',k1,k2,k3,k4⟩:=yY (P:=P) h1 h (hv.get (by simp) h2) (hv.get (by simp) h3) h4 hn h5
       exact⟨.skip,undef,w',g',by simp[execOp,k1],.inr ⟨rfl,rfl⟩,k2,k3,da,k4⟩
      ·cases he
 case nilCheck x =>
  simp only[Option.map_eq_some_iff]at hc
  obtain⟨y,h1,rfl⟩:=hc
  have vx:=hv.get (by simp) h1
  simp only[ae]at he
  have key:t=y.ev R∧H'=H∧∃v,(execOp ρ ⟨dst,.nilCheck x,ty,pos,after,guard⟩).run P w=.ok (.value v) w∧v=ρ x:=by
   simp only[execOp]
   generalize y.ev R=tx at vx he
   generalize ρ x=vv at vx
   cases vx<;>simp only[reduceCtorEq,Option.some.injEq,Prod.mk.injEq]at he<;>obtain⟨rfl,rfl⟩:=he<;>exact⟨rfl,rfl,_,rfl,rfl⟩
  obtain⟨rfl,rfl,v,k1,rfl⟩:=key
  exact⟨_,_,w,g,k1,.inl rfl,.refl _ _,h,vx,.refl _ _⟩
 case binOp op jN x y yt =>
  cases h1:aj x with
  | none=>simp[h1]at hc
  | some x' =>
   cases h2:aj y with
   | none=>simp[h1,h2]at hc
   | some y' =>
    simp only[h1,h2]at hc
    exact vj hc h (hv.get (by simp) h1) (hv.get (by simp) h2) he
 case unOp op jN x =>
  simp only[Option.map_eq_some_iff]at hc
  obtain⟨y,h1,rfl⟩:=hc
  simp only[ae,Option.map_eq_some_iff,Prod.mk.injEq]at he
  obtain⟨t',h2,rfl,rfl⟩:=he
  exact(yP h (hv.get (by simp) h1) h2).fv
 case convert s d x =>
  simp only[Option.bind_eq_some_iff]at hc
  obtain⟨y,h1,h2⟩:=hc
  exact qS h2 h (hv.get (by simp) h1) he
 case makeFunc fn first ew =>
  cases fn<;>simp only[aB]at hc<;>(try (cases hc;done))
  rename_i f
  split at hc
  ·rename_i h0
   simp only[Option.map_eq_some_iff]at hc
   obtain⟨ys,h1,rfl⟩:=hc
   have:first=#[]:=Array.eq_empty_of_size_eq_zero h0
   subst this
   simp only[ae,Option.some.injEq,Prod.mk.injEq]at he
   obtain⟨rfl,rfl⟩:=he
   have fX:=cj (ρ:=ρ) _ _ h1 (fun x hx=>hv x (by simpa using hx))
   have:=(u0 (P:=P) (f:=f) h fX).fv
   have e:ew.map ρ=(ew.toList.map ρ).toArray:=by apply Array.ext';simp
   have e0:(#[]:Array Operand).map ρ=#[]:=by simp
   simp only[execOp]
   rw[e,e0];exact this
  ·cases hc
 case range jN m =>
  cases hu:P.underlying jN with
  | none=>simp[hu]at hc
  | some d =>
   cases d<;>simp only[hu]at hc<;>(try (cases hc;done))
   simp only[Option.map_eq_some_iff]at hc
   obtain⟨y,h1,rfl⟩:=hc
   have vm:=hv.get (by simp) h1
   simp only[ae]at he
   generalize y.ev R=tm at vm he
   cases tm<;>(try (simp only[reduceCtorEq]at he;done))
   rename_i bb
   simp only[Option.map_eq_some_iff,Prod.mk.injEq]at he
   obtain⟨es,h2,rfl,rfl⟩:=he
   exact(u9 hu h vm h2).fv
 case next it str =>
  cases str<;>simp only[aB]at hc<;>(try (cases hc;done))
  simp only[Option.map_eq_some_iff]at hc
  obtain⟨y,h1,rfl⟩:=hc
  simp[ae]at he
 case entry it =>
  simp only[Option.map_eq_some_iff]at hc
  obtain⟨y,h1,rfl⟩:=hc
  have vm:=hv.get (by simp) h1
  simp only[ae]at he
  generalize y.ev R=tm at vm he
  cases tm<;>(try (simp only[reduceCtorEq]at he;done))
  rename_i bi off
  cases off with
  | succ _=>simp at he
  | zero =>
   simp only at he
   cases hi:H[bi]? with
   | none=>simp[hi]at he
   | some yi =>
    cases yi<;>simp only[hi]at he<;>(try (cases he;done))
    rename_i bb
    cases hb:H[bb]? with
    | none=>simp[hb]at he
    | some yb =>
     cases yb<;>simp only[hb]at he<;>(try (cases he;done))
     rename_i es ix wG cur
     cases cur with
     | none=>simp at he
     | some c =>
      simp only at he
      split at he
      ·rename_i e;subst e
       simp only[Option.map_eq_some_iff,Prod.mk.injEq]at he
       obtain⟨e,h2,rfl,rfl⟩:=he
       exact(ve h vm hb h2).fv
      ·cases he
 case makeMap jN r =>
  cases r with
  | some _=>simp[aB]at hc
  | none =>
   simp only[aB,Option.some.injEq]at hc
   subst hc
   simp only[ae,Option.some.injEq,Prod.mk.injEq]at he
   obtain⟨rfl,rfl⟩:=he
   exact(uO h).fv
 case makeSlice jN l c =>
  cases h1:aj l with
  | none=>simp[h1]at hc
  | some l' =>
   cases h2:aj c with
   | none=>simp[h1,h2]at hc
   | some c' =>
    simp only[h1,h2]at hc
    exact(vD hc h (hv.get (by simp) h1) (hv.get (by simp) h2) he).fv
 case slice jN x lo hi mx =>
  cases h1:aj x with
  | none=>simp[h1]at hc
  | some x' =>
   cases h2:dV lo with
   | none=>simp[h1,h2]at hc
   | some JO =>
    cases h3:dV hi with
    | none=>simp[h1,h2,h3]at hc
    | some fW =>
     cases h4:dV mx with
     | none=>simp[h1,h2,h3,h4]at hc
     | some JP =>
      simp only[h1,h2,h3,h4]at hc
      split at hc
      ·exact vo hc h (hv.get (by simp) h1) (cT h2 (fun z hz=>hv z (by simp;simp at hz;simp[hz]))) (cT h3 (fun z hz=>hv z (by simp;simp at hz;simp[hz]))) (cT h4 (fun z hz=>hv z (by simp;simp at hz;simp[hz]))) he
      ·exact py hc h (hv.get (by simp) h1) (cT h2 (fun z hz=>hv z (by simp;simp at hz;simp[hz]))) (cT h3 (fun z hz=>hv z (by simp;simp at hz;simp[hz]))) (cT h4 (fun z hz=>hv z (by simp;simp at hz;simp[hz]))) he
 case fieldAddr jN x f =>
  simp only[Option.bind_eq_some_iff]at hc
  obtain⟨y,h1,h2⟩:=hc
  exact(jM h2 h (hv.get (by simp) h1) he).fv
 case field jN x f =>
  simp only[Option.bind_eq_some_iff]at hc
  obtain⟨y,h1,h2⟩:=hc
  exact(jM h2 h (hv.get (by simp) h1) he).fv
 case indexAddr jN x i =>
  cases h1:aj x with
  | none=>simp[h1]at hc
  | some x' =>
   cases h2:aj i with
   | none=>simp[h1,h2]at hc
   | some i' =>
    simp only[h1,h2]at hc
    exact(oa hc h (hv.get (by simp) h1) (hv.get (by simp) h2) he).fv
 case index jN x i =>
  cases h1:aj x with
  | none=>simp[h1]at hc
  | some x' =>
   cases h2:aj i with
   | none=>simp[h1,h2]at hc
   | some i' =>
    simp only[h1,h2]at hc
    exact(oa hc h (hv.get (by simp) h1) (hv.get (by simp) h2) he).fv
 case lookup jN m k ok =>
  cases h1:aj m with
  | none=>simp[h1]at hc
  | some m' =>
   cases h2:aj k with
   | none=>simp[h1,h2]at hc
   | some k' =>
    simp only[h1,h2,Option.map_eq_some_iff]at hc
    obtain⟨⟨e,kt,z⟩,h4,rfl⟩:=hc
    exact(vB h4 h (hv.get (by simp) h1) (hv.get (by simp) h2) he).fv
 case extract x i =>
  simp only[Option.map_eq_some_iff]at hc
  obtain⟨y,h1,rfl⟩:=hc
  have vx:=hv.get (by simp) h1
  simp only[ae]at he
  generalize y.ev R=tx at vx he
  cases tx<;>(try simp only[reduceCtorEq]at he)
  simp only[Option.map_eq_some_iff,Prod.mk.injEq]at he
  obtain⟨t',h2,rfl,rfl⟩:=he
  exact(uM h vx h2).fv
 case call c =>
  obtain⟨callee,args,dt⟩:=c
  cases callee
  case value cv =>
   cases cv<;>simp only[aB]at hc<;>(try (cases hc;done))
   rename_i f
   split at hc
   ·rename_i n x y mO h1
    simp only[Option.some.injEq]at hc;subst hc
    have fX:=cj (ρ:=ρ) _ _ h1 (fun x hx=>hv x (by simp[Call.operands];exact .inr (by simpa using hx)))
    simp only[ae]at he
    have hd:=vA mO h fX he
    simpa[execOp,resolve,hρ,Deferred.ofValue,invoke]using hd
   ·cases hc
  all_goals simp only[aB]at hc<;>(try (cases hc;done))
  rename_i bi
  simp only[Option.bind_eq_some_iff]at hc
  obtain⟨aq,h1,h2⟩:=hc
  have fX:=cj (ρ:=ρ) _ _ h1 (fun x hx=>hv x (by simpa[Call.operands]using hx))
  have e:args.map ρ=(args.toList.map ρ).toArray:=by apply Array.ext';simp
  have e2:dt=dt.toList.toArray:=by simp
  have:=lK (rt:=ty) (cs:=args.map fun | .const _=>true|_=>false) h2 h fX he
  simp only[execOp,resolve,pure_bind,invoke]
  rw[e,e2]
  exact this
end
section
variable {P:Program} {w0 w:World} {g:Ctx} {H:aa}
theorem SR.kI {b r o q:Nat}{x x':Obj}{y y':B}(h:SR w0 g H w)(hb:H[b]?=some y)(hφ:g.φ b=some (r,o,q))(h1:g.κ r 0=.mut b)(hr:w.heap[r]?=some x)(hs:cw x=true)(gQ:cw x'=true)
  (lu:∀w',Le g w g w'→w'.heap[r]?=some x'→lq g w' b y') :
  Le g w g (w.putObj r x')∧SR w0 g (H.set b y') (w.putObj r x')∧Fr g H g (H.set b y'):=by
 have fp:b<H.length:=(List.getElem?_eq_some_iff.1 hb).1
 have tr:Tr w (w.putObj r x') b7 (fun r'=>r'=r):=Tr.nb w r hs gQ hr
 have le:Le g w g (w.putObj r x'):=Le.cz tr (fun _ _ h=>h) (fun _ _ h=>h) (fun _ _ _ h=>h) (fun _ _ hs=>hs.elim)
 refine⟨le,h.step (fun b'=>b'=b) tr le (fun _ _ hs=>hs.elim) (fun r' hm=>⟨b,by rw[hm];exact h1,rfl⟩) (fun r' j e7=>h.fresh r' j (by simpa[World.putObj]using e7)) (fun b' x hx=>by rw[List.length_set];exact h.gG b' x hx)
  (fun t e x hx=>by rw[List.length_set];exact h.cd t e x hx) (fun _ _ _=>rfl) (fun _ _ _ _=>⟨id,id⟩) (fun _ _ _ _=>rfl) (fun b' x hx=>?_),by simp,fun b' x a _ d=>⟨bF a (by rintro rfl;rw[hφ]at d;cases d),d⟩⟩
 rcases bj fp hx with⟨rfl,rfl⟩|⟨aF,et⟩
 ·exact .inr (lu _ le (World.putObj_heap_same (Array.getElem?_eq_some_iff.1 hr).1))
 ·exact .inl ⟨aF,et⟩
theorem SR.qT {x:Obj}{y:B}(h:SR w0 g H w)(HR:cw x=true)
  (lu:∀g' w',Le g w g' w'→g'.κ w.heap.size 0=.mut H.length→g'.φ H.length=some (w.heap.size,0,0)→w'.heap[w.heap.size]?=some x→lq g' w' H.length y) :
  ∃g',Le g w g' (w.alloc x)∧SR w0 g' (H++[y]) (w.alloc x)∧Fr g H g' (H++[y])∧g'.φ H.length=some (w.heap.size,0,0):=by
 have jG:=Tr.alloc w x
 have aF:∀r j ow,g.κ r j=ow→ow≠.free→r≠w.heap.size:=by rintro r j ow e hn rfl;exact hn (e▸h.fresh _ j (Nat.le_refl _))
 have AU:=h.tX (b:=H.length) (Nat.le_refl _)
 have le:Le g w ((g.row w.heap.size fun _=>.mut H.length).at H.length (w.heap.size,0,0)) (w.alloc x):=Le.cz jG
  (fun b' x hx=>by simp only[Ctx.at,Ctx.row];split;rename_i e;subst e;rw[AU]at hx;simp at hx;exact hx)
  (fun r o hk=>by simp only[Ctx.row,Ctx.at];rw[if_neg (aF r o _ hk (by simp))];exact hk) (fun _ _ _ h=>h) (fun _ _ hs=>hs.elim)
 refine⟨_,le,?_,⟨by simp,fun b x a _ d=>⟨cq a,?_⟩⟩,by simp[Ctx.at]⟩
 ·refine h.step (fun b'=>b'=H.length) jG le (fun _ _ hs=>hs.elim) (fun _ hm=>hm.elim) (fun r o hr=>?_) (fun b' x hx=>?_) (fun t e x hx=>by have:=h.cd t e x hx;simp;omega) (fun b' _ cY=>?_) (fun r j b' cY=>?_) (fun _ _ _ _=>rfl) (fun b' x hx=>?_)
  ·simp at hr
   simp only[Ctx.row,Ctx.at];rw[if_neg (by omega)];exact h.fresh r o (by omega)
  ·simp only[Ctx.at,Ctx.row]at hx
   split at hx
   ·rename_i e;subst e;simp
   ·have:=h.gG b' x hx;simp;omega
  ·simp only[Ctx.at,Ctx.row];rw[if_neg cY]
  ·constructor<;>intro e<;>simp only[Ctx.row,Ctx.at]<;>rw[if_neg (aF r j _ e (by simp))]<;>exact e
  ·by_cases e:b'=H.length
   ·subst e
    rw[bE]at hx;cases hx
    exact .inr (lu _ _ le (by simp[Ctx.row,Ctx.at]) (by simp[Ctx.at]) (World.alloc_heap_new w _))
   ·exact .inl ⟨e,aN e hx⟩
 ·have:=(List.getElem?_eq_some_iff.1 a).1
  simp only[Ctx.at,Ctx.row];rw[if_neg (by omega)];exact d
theorem SR.freeze {b:Nat}{cs:List T}(h:SR w0 g H w)(hb:H[b]?=some (.cells cs))(hφ:∃x,g.φ b=some x) :
  ∃g',Le g w g' w∧SR w0 g' (H.set b .dead) w∧Fr g H g' (H.set b .dead)∧∀t v,VR g w t v→VR g' w (mT b cs t) v:=by
 let g':Ctx:={ g with κ:=fun r o=>if g.κ r o=.mut b then .cI else g.κ r o }
 have le:Le g w g' w:=⟨fun _ _ h=>h,fun r o e=>by simp only[g'];rw[e];simp,fun _ _ _ h=>h,fun _ _ _ _ h=>h,rfl⟩
 have fp:b<H.length:=(List.getElem?_eq_some_iff.1 hb).1
 have tr:Tr w w (fun _ _=>False) (fun _=>False):=⟨⟨Nat.le_refl _,fun _ _ _ _=>rfl,fun _ _ _ h=>h,fun _ _ _ _ h=>h,fun _ _ _ _=>rfl,rfl,rfl⟩,fun _ _ _=>rfl⟩
 have sr:SR w0 g' (H.set b .dead) w:=by
  refine h.step (fun b'=>b'=b) tr le (fun _ _ h=>h.elim) (fun _ h=>h.elim) (fun r o hr=>?_) (fun b' x hx=>?_) (fun t e x hx=>?_) (fun _ _ _=>rfl) (fun r j b' aF=>⟨fun e=>?_,fun e=>?_⟩) (fun _ _ _ _=>rfl) (fun b' x hx=>?_)
  ·simp only[g'];rw[h.fresh r o hr];simp
  ·rw[List.length_set];exact h.gG b' x hx
  ·rw[List.length_set];exact h.cd t e x hx
  ·simp only[g'];rw[e,if_neg (by simpa using aF)]
  ·simp only[g'];rw[e,if_neg (by simp)]
  ·rcases bj fp hx with⟨rfl,rfl⟩|⟨aF,et⟩
   ·exact .inr trivial
   ·exact .inl ⟨aF,et⟩
 have one:∀t v,VR g w t v→VR g' w (uk b cs t) v:=by
  intro t v hv
  cases t with
  | aQ b' off len n =>
   simp only[uk]
   split
   ·rename_i hc
    obtain⟨rfl,hle⟩:=hc
    cases hv with
    | @aQ _ _ _ _ r o q cap hp hc hq =>
     obtain⟨c1,c2,c3⟩:=h.dy _ _ hb r o q hp
     have hlen:(dP cs off len n).length=len:=by simp[dP]
     have jo:∀(i j:Nat) (c:List T) (t:T),(dP cs off len n)[i]?=some c→c[j]?=some t→j<n∧i<len∧cs[off+i*n+j]?=some t:=by
      intro i j c t hi hj
      have gm:i<len:=by have:=(List.getElem?_eq_some_iff.1 hi).1;rw[hlen]at this;exact this
      simp only[dP,List.getElem?_map,List.getElem?_range gm,Option.map_some,Option.some.injEq]at hi
      subst hi
      rw[List.getElem?_take]at hj
      split at hj
      ·rename_i DM
       rw[List.getElem?_drop]at hj
       exact⟨DM,gm,hj⟩
      ·cases hj
     have key:∀(i j:Nat) (c:List T) (t:T),(dP cs off len n)[i]?=some c→c[j]?=some t→t.one=true∧∃v,w.cell? ⟨r,o+off+i*n+j,none⟩=some v∧VR g w t v∧g.κ r (o+off+i*n+j)=.mut b':=by
      intro i j c t hi hj
      obtain⟨h1,h2,h3⟩:=jo i j c t hi hj
      obtain⟨k1,v,k2,k3⟩:=c3 _ _ h3
      have jl:off+i*n+j<cs.length:=(List.getElem?_eq_some_iff.1 h3).1
      refine⟨k1,v,?_,k3,?_⟩
      ·rw[show o+off+i*n+j=o+(off+i*n+j) by omega];exact k2
      ·exact(c2 (o+off+i*n+j) (by omega) (by omega)).1
     have:=VR.sl (g:=g') (w:=w) (k:=.arg) (es:=dP cs off len n) (r:=r) (o:=o+off) (cap:=cap) (n:=n) (fun i j=>(w.cell? ⟨r,o+off+i*n+j,none⟩).getD undef) trivial (by rw[hlen];exact hc)
      (fun c ij=>by
       obtain⟨i,hi,rfl⟩:=List.mem_map.1 ij
       have hi:=List.mem_range.1 hi
       have:i*n+n≤len*n:=by rw[←Nat.succ_mul];exact Nat.mul_le_mul_right n hi
       rw[List.length_take,List.length_drop];omega)
      (fun i j c t hi hj=>by
       obtain⟨k1,v,k2,_,k4⟩:=key i j c t hi hj
       refine⟨k1,?_,by rw[k2];rfl⟩
       simp only[g'];rw[if_pos k4])
      (fun i j c t hi hj=>by
       obtain⟨_,v,k2,k3,_⟩:=key i j c t hi hj
       rw[k2];exact k3.mono le)
     rw[hlen]at this
     exact this
   ·exact hv.mono le
  | _=>exact hv.mono le
 refine⟨g',le,sr,⟨by simp,fun b' y a _ d=>⟨bF a (by rintro rfl;obtain⟨x,hx⟩:=hφ;rw[hx]at d;cases d),d⟩⟩,fun t v hv=>?_⟩
 cases t with
 | bo vs =>
  cases hv with
  | bo hl h2 =>
   refine .bo (by simpa using hl) fun i t v hi pB=>?_
   rw[List.getElem?_map,Option.map_eq_some_iff]at hi
   obtain⟨t',ED,rfl⟩:=hi
   exact one _ _ (h2 i t' v ED pB)
 | _=>exact one _ _ hv
end
section
variable {w0 w:World} {g:Ctx} {H:aa}
theorem SR.vE {b:Nat}{cs:List T}(h:SR w0 g H w)(hb:H[b]?=some (.cells cs))(hφ:∃x,g.φ b=some x) :
  ∃g',Le g w g' w∧SR w0 g' (H.set b (.fz cs)) w∧Fr g H g' (H.set b (.fz cs)):=by
 let g':Ctx:={ g with κ:=fun r o=>if g.κ r o=.mut b then .cI else g.κ r o }
 have le:Le g w g' w:=⟨fun _ _ h=>h,fun r o e=>by simp only[g'];rw[e];simp,fun _ _ _ h=>h,fun _ _ _ _ h=>h,rfl⟩
 have fp:b<H.length:=(List.getElem?_eq_some_iff.1 hb).1
 have tr:Tr w w (fun _ _=>False) (fun _=>False):=⟨⟨Nat.le_refl _,fun _ _ _ _=>rfl,fun _ _ _ h=>h,fun _ _ _ _ h=>h,fun _ _ _ _=>rfl,rfl,rfl⟩,fun _ _ _=>rfl⟩
 have sr:SR w0 g' (H.set b (.fz cs)) w:=by
  refine h.step (fun b'=>b'=b) tr le (fun _ _ h=>h.elim) (fun _ h=>h.elim) (fun r o hr=>?_) (fun b' x hx=>?_) (fun t e x hx=>?_) (fun _ _ _=>rfl) (fun r j b' aF=>⟨fun e=>?_,fun e=>?_⟩) (fun _ _ _ _=>rfl) (fun b' x hx=>?_)
  ·simp only[g'];rw[h.fresh r o hr];simp
  ·rw[List.length_set];exact h.gG b' x hx
  ·rw[List.length_set];exact h.cd t e x hx
  ·simp only[g'];rw[e,if_neg (by simpa using aF)]
  ·simp only[g'];rw[e,if_neg (by simp)]
  ·rcases bj fp hx with⟨rfl,rfl⟩|⟨aF,et⟩
   ·refine .inr fun r o q hq=>?_
    obtain⟨c1,c2,c3⟩:=h.dy _ _ hb r o q hq
    refine⟨c1,fun i t hi=>?_⟩
    have gm:i<cs.length:=(List.getElem?_eq_some_iff.1 hi).1
    obtain⟨k1,v,k2,k3⟩:=c3 i t hi
    refine⟨k1,v,⟨?_,k2⟩,k3.mono le⟩
    simp only[g'];rw[if_pos (c2 (o+i) (by omega) (by omega)).1]
   ·exact .inl ⟨aF,et⟩
 exact⟨g',le,sr,⟨by simp,fun b' y a _ d=>⟨bF a (by rintro rfl;obtain⟨x,hx⟩:=hφ;rw[hx]at d;cases d),d⟩⟩⟩
theorem fO (cs:List T)(off len n:Nat):(dP cs off len n).length=len:=by simp[dP]
theorem qU {cs:List T}{off len n i j:Nat}{c:List T}{t:T}(hi:(dP cs off len n)[i]?=some c)(hj:c[j]?=some t):j<n∧i<len∧cs[off+i*n+j]?=some t:=by
 have gm:i<len:=by have:=(List.getElem?_eq_some_iff.1 hi).1;rw[fO]at this;exact this
 simp only[dP,List.getElem?_map,List.getElem?_range gm,Option.map_some,Option.some.injEq]at hi
 subst hi
 rw[List.getElem?_take]at hj
 split at hj
 ·rename_i DM
  rw[List.getElem?_drop]at hj
  exact⟨DM,gm,hj⟩
 ·cases hj
theorem SR.vF {b len n:Nat}{cs:List T}{v:Value}(h:SR w0 g H w)(hb:H[b]?=some (.cells cs))(hv:VR g w (.aQ b 0 len n) v)(hlen:len*n=cs.length)(h0:0<len) :
  ∃g',Le g w g' w∧SR w0 g' (H.set b (.fz cs)++[.tok len]) w∧Fr g H g' (H.set b (.fz cs)++[.tok len])∧∀v,VR g w (.aQ b 0 len n) v→VR g' w (.sl (.own H.length len) (dP cs 0 len n)) v:=by
 obtain⟨r,o,q,hφ⟩:∃r o q,g.φ b=some (r,o,q):=by cases hv with|aQ hp=>exact⟨_,_,_,hp⟩
 obtain⟨c1,c2,c3⟩:=h.dy _ _ hb r o q hφ
 have fp:b<H.length:=(List.getElem?_eq_some_iff.1 hb).1
 let g':Ctx:={ g with κ:=fun r' o'=>if g.κ r' o'=.mut b then(if r'=r∧o+cs.length≤o'∧o'<q then .spare H.length else .cI)else g.κ r' o',π:=fun t e=>if t=H.length then(if e=len then some (r,o+cs.length,q)else none)else g.π t e }
 have H7:∀e,g.π H.length e=none:=fun e=>by
  cases hp:g.π H.length e with
  | none=>rfl
  | some x=>exact absurd (h.cd _ _ _ hp) (Nat.lt_irrefl _)
 have le:Le g w g' w:=⟨fun _ _ h=>h,fun r o e=>by simp only[g'];rw[e];simp,fun t e x hx=>by
  simp only[g'];rw[if_neg (by rintro rfl;rw[H7]at hx;cases hx)];exact hx,fun _ _ _ _ h=>h,rfl⟩
 have tr:Tr w w (fun _ _=>False) (fun _=>False):=⟨⟨Nat.le_refl _,fun _ _ _ _=>rfl,fun _ _ _ h=>h,fun _ _ _ _ h=>h,fun _ _ _ _=>rfl,rfl,rfl⟩,fun _ _ _=>rfl⟩
 have cI:∀i,i<cs.length→g'.κ r (o+i)=.cI:=fun i hi=>by
  simp only[g'];rw[if_pos (c2 (o+i) (by omega) (by omega)).1,if_neg (by omega)]
 have sr:SR w0 g' (H.set b (.fz cs)++[.tok len]) w:=by
  refine h.step (fun b'=>b'=b∨b'=H.length) tr le (fun _ _ h=>h.elim) (fun _ h=>h.elim) (fun r o hr=>?_) (fun b' x hx=>?_) (fun t e x hx=>?_) (fun _ _ _=>rfl) (fun r j b' aF=>⟨fun e=>?_,fun e=>?_⟩) (fun t e _ ht=>?_) (fun b' x hx=>?_)
  ·simp only[g'];rw[h.fresh r o hr];simp
  ·have:=h.gG b' x hx;simp;omega
  ·simp only[g']at hx
   split at hx
   ·rename_i e;subst e;simp
   ·have:=h.cd t e x hx;simp;omega
  ·simp only[g'];rw[e,if_neg (by simpa using fun e=>aF (.inl e))]
  ·simp only[g'];rw[e,if_neg (by simp)]
  ·simp only[g'];rw[if_neg (fun e=>ht (.inr e))]
  ·by_cases e:b'=H.length
   ·subst e
    have:(H.set b (.fz cs)++[B.tok len])[H.length]?=some (.tok len):=by rw[show H.length=(H.set b (.fz cs)).length by simp];exact bE _ _
    rw[this]at hx;cases hx
    refine .inr ⟨r,o+cs.length,q,by simp[g'],c1,fun j a c=>⟨?_,(c2 j (by omega) c).2⟩,fun e' he=>?_⟩
    ·simp only[g',true_and];rw[if_pos (c2 j (by omega) c).1,if_pos ⟨a,c⟩]
    ·simp only[g',if_true];rw[if_neg (by omega)]
   ·have et:(H.set b (.fz cs))[b']?=some x:=aN (by simpa using e) hx
    rcases bj fp et with⟨rfl,rfl⟩|⟨aF,et⟩
    ·refine .inr fun r' o' q' hq=>?_
     have e1:g.φ b'=some (r',o',q'):=hq
     rw[hφ]at e1;cases e1
     refine⟨c1,fun i t hi=>?_⟩
     have gm:i<cs.length:=(List.getElem?_eq_some_iff.1 hi).1
     obtain⟨k1,v,k2,k3⟩:=c3 i t hi
     exact⟨k1,v,⟨cI i gm,k2⟩,k3.mono le⟩
    ·exact .inl ⟨fun e'=>e'.elim aF e,et⟩
 refine⟨g',le,sr,⟨by simp,fun b' y a _ d=>⟨cq (bF a (by rintro rfl;rw[hφ]at d;cases d)),d⟩⟩,fun v hv=>?_⟩
 cases hv with
 | @aQ _ _ _ _ r1 o1 q1 cap hp hc hq =>
  rw[hφ]at hp;cases hp
  have key:∀(i j:Nat) (c:List T) (t:T),(dP cs 0 len n)[i]?=some c→c[j]?=some t→t.one=true∧∃v,w.cell? ⟨r,o+i*n+j,none⟩=some v∧VR g w t v∧g'.κ r (o+i*n+j)=.cI:=by
   intro i j c t hi hj
   obtain⟨_,_,h3⟩:=qU hi hj
   obtain⟨k1,v,k2,k3⟩:=c3 _ _ h3
   have jl:0+i*n+j<cs.length:=(List.getElem?_eq_some_iff.1 h3).1
   refine⟨k1,v,?_,k3,?_⟩
   ·rw[show o+i*n+j=o+(0+i*n+j) by omega];exact k2
   ·rw[show o+i*n+j=o+(i*n+j) by omega];exact cI _ (by omega)
  have:=VR.sl (g:=g') (w:=w) (k:=.own H.length len) (es:=dP cs 0 len n) (r:=r) (o:=o) (cap:=cap) (n:=n) (fun i j=>(w.cell? ⟨r,o+i*n+j,none⟩).getD undef)
   (by
    rw[fO]
    refine⟨?_,h0⟩
    simp only[g']
    simp only[if_true]
    rw[hlen]
    have:o+cap*n=q:=by omega
    rw[this])
   (by rw[fO];exact hc)
   (fun c ij=>by
    obtain⟨i,hi,rfl⟩:=List.mem_map.1 ij
    have hi:=List.mem_range.1 hi
    have:i*n+n≤len*n:=by rw[←Nat.succ_mul];exact Nat.mul_le_mul_right n hi
    rw[List.length_take,List.length_drop];omega)
   (fun i j c t hi hj=>by
    obtain⟨k1,v,k2,_,k4⟩:=key i j c t hi hj
    exact⟨k1,k4,by rw[k2];rfl⟩)
   (fun i j c t hi hj=>by
    obtain⟨_,v,k2,k3,_⟩:=key i j c t hi hj
    rw[k2];exact k3.mono le)
  rw[fO]at this
  exact this
theorem Vw.ok {t t':T}(hv:Vw H t t')(h:SR w0 g H w):∀v,VR g w t v→VR g w t' v:=by
 induction hv with
 | refl t=>exact fun v hv=>hv
 | @ms b off len n cs es src hb hl hn hle h1 h2 ih =>
  intro v hv
  cases hv with
  | @aQ _ _ _ _ r o q cap hp hc hq =>
   have hf:=h.dy _ _ hb r o q hp
   have key:∀(i j:Nat) (c:List T) (t':T),es[i]?=some c→c[j]?=some t'→t'.one=true∧∃v,mL g w r (o+off+i*n+j) v∧VR g w t' v:=by
    intro i j c t' hi hj
    obtain⟨k1,k2⟩:=h1 i j c t' hi hj
    obtain⟨_,v,k3,k4⟩:=hf.2 _ _ k1
    exact⟨k2,v,by rw[show o+off+i*n+j=o+(off+i*n+j) by omega];exact k3,ih i j c t' hi hj v k4⟩
   have:=VR.sl (g:=g) (w:=w) (k:=.arg) (es:=es) (r:=r) (o:=o+off) (cap:=cap) (n:=n) (fun i j=>(w.cell? ⟨r,o+off+i*n+j,none⟩).getD undef) trivial (by rw[hl];exact hc) hn
    (fun i j c t' hi hj=>by
     obtain⟨k1,v,k2,_⟩:=key i j c t' hi hj
     refine⟨k1,k2.1,?_⟩
     rw[k2.2];rfl)
    (fun i j c t' hi hj=>by
     obtain⟨_,v,k2,k3⟩:=key i j c t' hi hj
     rw[k2.2];exact k3)
   rw[hl]at this
   exact this
end
def bc (P:Program)(f:FuncId):Bool :=
 match P.funcs[f]? with
 | some fn=>fn.name != "runtime.NumGoroutine"&&fn.body.isSome
 | none=>false
def bI (P:Program)(mu:Bool):Op→Option tT
 | .call { callee:=.value (.func f),args,.. }=>if bc P f then(cg args.toList).map (.call f)else match n9 P f,cg args.toList with
  | some n,some [x,y]=>some (.b (.z1 n x y))
  | _,_=>none
 | .call { callee:=.value (.tmp t),args,.. }=>(cg args.toList).map (.bl (.r t))
 | op=>(aB P mu op).map .b
def wQ:Op→Bool
 | .defer _=>false
 | _=>true
def bd (P:Program)(mu:Bool)(op:Op):Option tT:=match bI P mu op with
 | some y=>some y
 | none=>if mu&&wQ op then some (.bl (.c .dv) [])else none
def jO (ops:Array Oper):Option (Nat×Bool)→Option Gd
 | none=>some none
 | some (j,b)=>match (ops[j]?).bind (·.dst)with
  | some d=>some (some (d,b))
  | none=>none
def bn:X→List Nat
 | .r t=>[t]
 | .c _=>[]
def gv:Option X→List Nat
 | some x=>bn x
 | none=>[]
def od:Bo→List Nat
 | .ak x | .un _ x | .eg _ x | .p9 x | .yA _ x | .len _ x | .box x | .ld _ _ x | .jy _ x | .Du _ _ _ x | .ext _ x | .hP x | .cap x | .z6 x | .hU x | .z7 x | .As _ _ x=>bn x
 | .bin _ x y | .eX _ _ x y | .beq _ x y | .eqs _ _ x y | .st _ x y | .mJ _ x y | .wE _ _ x y | .Ar x y | .Dv _ _ _ x y | .mK _ _ _ x y | .del _ x y | .app _ _ _ x y | .Dw _ _ _ x y | .mn x y | .mx x y | .uf _ x y | .z1 _ x y | .Au _ _ _ x y=>bn x++bn y
 | .pick x y z | .tR _ x y z=>bn x++bn y++bn z
 | .build _ ps=>ps.flatMap fun p=>bn p.2.2
 | .kr _ _ ps | .z8 _ _ ps=>ps.flatMap fun p=>bn p.2
 | .yB x lo hi=>bn x++gv lo++gv hi
 | .fV _ x lo hi mx=>bn x++gv lo++gv hi++gv mx
 | .Dx _ x hi=>bn x++bn hi
 | .yC _ l=>l.flatMap bn
 | .alloc _ | .nV=>[]
def lL:tT→List Nat
 | .b b=>od b
 | .call _ aq=>aq.flatMap bn
 | .bl f aq=>bn f++aq.flatMap bn
def e9:Gd→List Nat
 | some (t,_)=>[t]
 | none=>[]
def bQ (l:List Operand):List Nat:=l.filterMap fun | .tmp t=>some t|_=>none
def tmpsOf (o:Oper)(op:tT)(g:Gd):List Nat:=bQ o.op.operands.toList++(e9 g++lL op)
def bX (P:Program)(n:Nat)(ops:Array Oper)(mu:Bool)(o:Oper)(gO:List Rd):Option O :=
 match bd P mu o.op,jO ops o.guard with
 | some op,some g=>if (tmpsOf o op g).all (·<n)&&(o.dst.all (·<n))then some ⟨o.dst,op,g,gO⟩else none
 | _,_=>none
def cr (P:Program)(n:Nat)(ops:Array Oper)(mu:Nat→Bool):List Nat→Option (List O)
 | []=>some []
 | i :: is=>match ops[i]? with
  | some o=>match bX P n ops (mu i) o [],cr P n ops mu is with
   | some o,some l=>some (o :: l)
   | _,_=>none
  | none=>none
def aU (o:Oper):List Nat:=(o.after.toList.filter fun e=>Region.binds .any e).map (·.on)
def dW (acc:List Nat)(o:Oper):Nat:=(aU o).foldl (fun s j=>s ||| 2^j ||| acc.getD j 0) 0
def bN:List Oper→List Nat→List Nat
 | [],acc=>acc
 | o :: l,acc=>bN l (acc++[dW acc o])
inductive Kl where|pure|read|make|wR
 deriving DecidableEq
def gw:Bo→Kl
 | .ak _ | .pick _ _ _ | .bin _ _ _ | .beq _ _ _ | .eqs _ _ _ _ | .un _ _ | .eg _ _ | .build _ _ | .kr _ _ _ | .jy _ _ | .Du _ _ _ _ | .mJ _ _ _ | .wE _ _ _ _ | .Ar _ _ | .Dv _ _ _ _ _ | .yB _ _ _ | .fV _ _ _ _ _
 | .yC _ _ | .ext _ _ | .mn _ _ | .mx _ _ | .hP _=>.pure
 | .eX _ c _ _=>if c=.slice then .wR else .pure
 | .ld _ _ _ | .mK _ _ _ _ _ | .len _ _ | .p9 _=>.read
 | .alloc _ | .nV=>.make
 | _=>.wR
def ua (o:O):Kl:=match o.op with
 | .b b=>match o.d with|some _=>gw b|none=>.wR
 | _=>.wR
structure It where
 i:Nat
 o:O
 early:Bool
 ts:List Nat
def dz (b:Nat):List It→List Rd
 | []=>[]
 | y :: l=>match y.early,y.o.d,y.o.op with
  | true,some d,.b op=>if gw op=.read∧b.testBit y.i=false then⟨d,op,y.o.g⟩ :: dz b l else dz b l
  | _,_,_=>dz b l
def nw:Op→Bool
 | .alloc _ | .makeMap _ none=>true
 | _=>false
def qV (b:Nat)(before:List It)(x:It)(oper:Oper):Bool :=
 ((aU oper).all fun j=>decide (j<x.i)&&before.any (·.i==j)) &&
 (before.all fun y=>y.early||b.testBit y.i) &&
 (before.all fun y=>y.i != x.i) &&
 (match x.o.d with
  | some d=>(before.all fun y=>y.o.d != some d&&(!y.ts.contains d||(!x.early&&b.testBit y.i)))&&!x.ts.contains d
  | none=>true) &&
 (before.all fun y=>match y.o.d with
  | some d=>!x.ts.contains d||b.testBit y.i
  | none=>true) &&
 (!x.early||(ua x.o != .wR&&(ua x.o != .make||nw oper.op)))
def ny (P:Program)(n:Nat)(ops:Array Oper)(mu:Nat→Bool)(b:Nat)(before:List It)(x:Nat×Bool):Option It :=
 match ops[x.1]? with
 | some o=>match bX P n ops (mu x.1) o (if x.2 then []else dz b before)with
  | some o'=>let y:It:=⟨x.1,o',x.2,tmpsOf o o'.op o'.g⟩
   if qV b before y o then some y else none
  | none=>none
 | none=>none
def bA (P:Program)(n:Nat)(ops:Array Oper)(mu:Nat→Bool)(bs:List Nat)(before:List It):List (Nat×Bool)→Option (List It)
 | []=>if (List.range ops.size).all fun i=>before.any (·.i==i)then some []else none
 | x :: l=>match ny P n ops mu (bs.getD x.1 0) before x with
  | some y=>(bA P n ops mu bs (before++[y]) l).map (y :: ·)
  | none=>none
structure An where
 mu:List (Nat×Nat)
 ord:List (Nat×List (Nat×Bool))
def ax (P:Program)(n:Nat)(an:An)(top:Bool):Code→Option C
 | .skip=>some .skip
 | .region id ops false=>(cr P n ops (fun i=>an.mu.contains (id,i)) (List.range ops.size)).map .ops
 | .region id ops true=>match an.ord.find? (·.1==id)with
  | some (_,ord)=>(bA P n ops (fun i=>an.mu.contains (id,i)) (bN ops.toList []) [] ord).map fun dL=>.ops (dL.map (·.o))
  | none=>none
 | .seq a b=>match ax P n an top a,ax P n an top b with
  | some a,some b=>some (.seq a b)
  | _,_=>none
 | .cond c a b=>match aj c,ax P n an top a,ax P n an top b with
  | some x,some a,some b=>if (match c with | .tmp t=>decide (t<n)|_=>true)then some (.cond x a b)else none
  | _,_,_=>none
 | .block id a=>(ax P n an top a).map (.block id)
 | .loop a=>(ax P n an top a).map .loop
 | .exit id=>some (.exit id)
 | .ret=>some .ret
 | .rangeFunc g ps bh body=>match aj g,ax P n an false bh,ax P n an false body with
  | some x,some a,some b=>if top&&(bn x).all (·<n)&&ps.toList.all (·<n)then some (.bw n x ps.toList a b)else none
  | _,_,_=>none
 | _=>none
def fP (P:Program):List ResultVar→Option (List Rs)
 | []=>some []
 | .tmp t :: l=>(fP P l).map (.t t :: ·)
 | .cell a t :: l=>match P.underlying t,P.info? t with
  | some d,some i=>(fP P l).map (.cl a (if bC d then i.size else 1) (bC d) :: ·)
  | _,_=>none
def pC (n:Nat):Rs→Bool
 | .t r | .cl r _ _=>r<n
def af (P:Program)(an:An)(f:FuncId):Option Fn :=
 match P.funcs[f]? with
 | some fn=>match fn.body,fP P fn.results.toList with
  | some c,some res=>match ax P fn.ntmps an true c with
   | some c=>if bc P f&&decide (fn.params.size+fn.nfree≤fn.ntmps)&&res.all (pC fn.ntmps)then some ⟨fn.ntmps,fn.params.size+fn.nfree,res,c⟩else none
   | none=>none
  | _,_=>none
 | none=>none
section
variable {R R':ai} {H:aa}
theorem aZ {x:X}(h:∀t∈bn x,R t=R' t):x.ev R=x.ev R':=by
 cases x with
 | r t=>exact h t (by simp[bn])
 | c v=>rfl
theorem eQ {x:Option X}{d:Nat}(h:∀t∈gv x,R t=R' t):cX R d x=cX R' d x:=by
 cases x with
 | none=>rfl
 | some x=>simp only[cX];rw[aZ h]
theorem fQ:∀(ps:List (Nat×Nat×X)),(∀t∈ps.flatMap (fun p=>bn p.2.2),R t=R' t)→bV R ps=bV R' ps
 | [],_=>rfl
 | (off,n,x) :: ps,h=>by
  simp only[bV]
  rw[aZ (x:=x) (R':=R') (fun t ht=>h t (by simp[ht])),fQ ps (fun t ht=>h t (by rw[List.flatMap_cons];exact List.mem_append_right _ ht))]
theorem gJ (n:Nat):∀(ps:List (Nat×X)) (es:List (List T)),(∀t∈ps.flatMap (fun p=>bn p.2),R t=R' t)→dB n es R ps=dB n es R' ps
 | [],_,_=>rfl
 | (i,x) :: ps,es,h=>by
  simp only[dB]
  rw[aZ (x:=x) (R':=R') (fun t ht=>h t (by simp[ht]))]
  split
  ·split
   ·exact gJ n ps _ (fun t ht=>h t (by rw[List.flatMap_cons];exact List.mem_append_right _ ht))
   ·rfl
  ·rfl
theorem gK (n:Nat):∀(ps:List (Nat×X)) (es:List (List T)),(∀t∈ps.flatMap (fun p=>bn p.2),R t=R' t)→dC n es R ps=dC n es R' ps
 | [],_,_=>rfl
 | (i,x) :: ps,es,h=>by
  simp only[dC]
  rw[aZ (x:=x) (R':=R') (fun t ht=>h t (by simp[ht]))]
  split
  ·split
   ·exact gK n ps _ (fun t ht=>h t (by rw[List.flatMap_cons];exact List.mem_append_right _ ht))
   ·rfl
  ·rfl
theorem iC:∀(l:List X),(∀t∈l.flatMap bn,R t=R' t)→l.map (X.ev R)=l.map (X.ev R')
 | [],_=>rfl
 | x :: l,h=>by
  simp only[List.map_cons]
  rw[aZ (x:=x) (R':=R') (fun t ht=>h t (by simp[ht])),iC l (fun t ht=>h t (by rw[List.flatMap_cons];exact List.mem_append_right _ ht))]
theorem iD {b:Bo}(h:∀t∈od b,R t=R' t):ae R H b=ae R' H b:=by
 cases b<;>simp only[od,List.mem_append]at h
 case build z ps=>simp only[ae];rw[fQ ps h]
 case kr n z ps=>simp only[ae];rw[gJ _ ps _ h]
 case z8 n z ps=>simp only[ae];rw[gK _ ps _ h]
 case yC f l=>simp only[ae,wF];rw[iC l h]
 case alloc=>rfl
 case nV=>rfl
 case yB x lo hi =>
  have h1:=aZ (x:=x) (R:=R) (R':=R') (fun t ht=>h t (.inl (.inl ht)))
  have h2:=fun d=>eQ (x:=lo) (d:=d) (R:=R) (R':=R') (fun t ht=>h t (.inl (.inr ht)))
  have h3:=fun d=>eQ (x:=hi) (d:=d) (R:=R) (R':=R') (fun t ht=>h t (.inr ht))
  simp only[ae,h1,h2,h3]
 case fV n x lo hi mx =>
  have hm:∀m,mx=some m→m.ev R=m.ev R':=fun m e=>aZ (fun t ht=>h t (.inr (by subst e;exact ht)))
  have h1:=aZ (x:=x) (R:=R) (R':=R') (fun t ht=>h t (.inl (.inl (.inl ht))))
  have h2:=fun d=>eQ (x:=lo) (d:=d) (R:=R) (R':=R') (fun t ht=>h t (.inl (.inl (.inr ht))))
  have h3:=fun d=>eQ (x:=hi) (d:=d) (R:=R) (R':=R') (fun t ht=>h t (.inl (.inr ht)))
  simp only[ae,h1,h2,h3]
  cases mx with
  | none =>
   cases x.ev R' with
   | sl k es=>dsimp only;cases cX R' 0 lo with
    | none=>rfl
    | some l=>cases cX R' es.length hi<;>rfl
   | aQ b off len n'=>rfl
   | _=>rfl
  | some m =>
   cases x.ev R' with
   | sl k es=>dsimp only;cases cX R' 0 lo with
    | none=>rfl
    | some l=>cases cX R' es.length hi with
     | none=>rfl
     | some h=>dsimp only;rw[hm m rfl]
   | aQ b off len n'=>rfl
   | _=>rfl
 all_goals first
  | (simp only[ae,aZ h];done)
  | (rename_i x;simp only[ae];rw[aZ (x:=x) (R':=R') h])
  | (rename_i x y;simp only[ae];rw[aZ (x:=x) (R':=R') (fun t ht=>h t (.inl ht)),aZ (x:=y) (R':=R') (fun t ht=>h t (.inr ht))])
  | (rename_i x y z;simp only[ae];rw[aZ (x:=x) (R':=R') (fun t ht=>h t (.inl (.inl ht))),aZ (x:=y) (R':=R') (fun t ht=>h t (.inl (.inr ht))),aZ (x:=z) (R':=R') (fun t ht=>h t (.inr ht))])
theorem eH {g:Gd}(h:∀t∈e9 g,R t=R' t):av R g=av R' g:=by
 cases g with
 | none=>rfl
 | some p=>obtain⟨t,b⟩:=p;simp only[av];rw[h t (by simp[e9])]
theorem lM {b:Bo}(hk:gw b=.pure)(H2:aa):ae R H2 b=(ae R H b).map fun p=>(p.1,H2):=by
 cases b<;>simp only[gw]at hk<;>(try (cases hk;done))<;>simp only[ae]
 case fV n x lo hi mx =>
  cases x.ev R with
  | sl k es =>
   dsimp only
   cases cX R 0 lo with
   | none=>rfl
   | some l=>cases cX R es.length hi with
    | none=>rfl
    | some h=>cases mx with
     | none=>dsimp only;split<;>rfl
     | some m=>dsimp only;cases aR (m.ev R)with
      | none=>rfl
      | some m=>dsimp only;split<;>rfl
  | aQ b off len n' =>
   dsimp only
   cases cX R 0 lo with
   | none=>rfl
   | some l=>cases cX R len hi with
    | none=>rfl
    | some h=>cases mx with
     | none=>dsimp only;split<;>rfl
     | some m=>rfl
  | bU b off len n' c =>
   dsimp only
   cases cX R 0 lo with
   | none=>rfl
   | some l=>cases cX R len hi with
    | none=>rfl
    | some h=>cases mx with
     | none=>dsimp only;split<;>rfl
     | some m=>rfl
  | _=>rfl
 all_goals (try rfl)
 all_goals (try (simp[Option.map_map,Function.comp_def];done))
 all_goals (try (simp[Option.map_map,Option.map_bind,Function.comp_def];done))
 all_goals (repeat' split)
 all_goals (try (simp_all [Option.map_map,Function.comp_def];done))
theorem eR {b:Bo}{v:T}{H':aa}(hk:gw b=.pure)(h:ae R H b=some (v,H')):H'=H∧∀H2,ae R H2 b=some (v,H2):=by
 constructor
 ·have h1:=lM (R:=R) (H:=H) hk H
  rw[h]at h1;simp at h1;exact h1
 ·intro H2;rw[lM (H:=H) hk H2,h];rfl
theorem dX {l:aa}{b:Nat}{x:B}(h:H[b]?=some x):(H++l)[b]?=some x:=by
 rw[List.getElem?_append_left (List.getElem?_eq_some_iff.1 h).1];exact h
theorem vG {n:Nat}{t:T}{cs:List T}(l:aa)(h:gF H n t=some cs):gF (H++l) n t=some cs:=by
 unfold gF at *
 cases t<;>simp only[]at h ⊢<;>try (first|exact h|cases h)
 rename_i b off
 cases hb:H[b]? with
 | none=>simp[hb]at h
 | some x=>rw[hb]at h;rw[dX hb];exact h
theorem pD {t:T}{es:List (T×T)}(l:aa)(h:cu H t=some es):cu (H++l) t=some es:=by
 unfold cu at *
 cases t<;>simp only[]at h ⊢<;>try (first|exact h|cases h)
 rename_i b
 cases hb:H[b]? with
 | none=>simp[hb]at h
 | some x=>rw[hb]at h;rw[dX hb];exact h
theorem qW {t:T}{k:Lc}{n:Nat}(l:aa)(h:eo H k t=some n):eo (H++l) k t=some n:=by
 unfold eo at *
 cases k<;>cases t<;>simp only[]at h ⊢<;>try (first|exact h|cases h)
 rename_i b
 cases hb:H[b]? with
 | none=>simp[hb]at h
 | some x=>rw[hb]at h;rw[dX hb];exact h
theorem lN {t:T}{n:Nat}{es:List (List T)}(l:aa)(h:aH H n t=some es):aH (H++l) n t=some es:=by
 unfold aH at *
 cases t<;>simp only[]at h ⊢<;>try (first|exact h|cases h)
 rename_i b off len n'
 cases hb:H[b]? with
 | none=>simp[hb]at h
 | some x=>rw[hb]at h;rw[dX hb];exact h
theorem eS {b:Bo}{v:T}{H':aa}(hk:gw b=.read)(h:ae R H b=some (v,H')):H'=H∧∀l,ae R (H++l) b=some (v,H++l):=by
 cases b<;>simp only[gw]at hk<;>(try (cases hk;done))<;>simp only[ae]at h ⊢
 case eX=>split at hk<;>cases hk
 case p9 x =>
  cases he:aH H 1 (x.ev R)with
  | none=>simp[he]at h
  | some es =>
   rw[he]at h
   refine⟨?_,fun l=>?_⟩
   ·dsimp only at h;split at h
    ·cases h
    ·simp only[Option.map_eq_some_iff,Prod.mk.injEq]at h;obtain⟨_,_,_,e⟩:=h;exact e.symm
   ·rw[lN l he]
    dsimp only at h ⊢;split at h
    ·cases h
    ·simp only[Option.map_eq_some_iff,Prod.mk.injEq]at h ⊢
     obtain⟨a,h1,h2,_⟩:=h
     rename_i aF
     exact⟨a,h1,h2,trivial⟩
 case len k x =>
  simp only[Option.map_eq_some_iff,Prod.mk.injEq]at h ⊢
  obtain⟨a,h1,h2,h3⟩:=h
  exact⟨h3.symm,fun l=>⟨a,qW l h1,h2,trivial⟩⟩
 case ld n ag x =>
  cases he:gF H n (x.ev R)with
  | none=>simp[he]at h
  | some cs =>
   simp only[he,Option.map_eq_some_iff,Prod.mk.injEq]at h
   obtain⟨a,h1,h2,h3⟩:=h
   exact⟨h3.symm,fun l=>by simp[vG l he,h1,h2]⟩
 case mK kt z ok m k =>
  split at h
  ·rename_i hh
   simp only[hh,if_true]
   cases he:cu H (m.ev R)with
   | none=>simp[he]at h
   | some es =>
    simp only[he]at h
    simp only[pD _ he]
    split at h
    ·split at h
     ·cases h;exact⟨rfl,fun l=>rfl⟩
     ·cases h
    ·cases h;exact⟨rfl,fun l=>rfl⟩
    ·cases h
  ·cases h
end
theorem lO:∀(l:List Oper) (acc:List Nat),∃rest,bN l acc=acc++rest∧rest.length=l.length
 | [],acc=>⟨[],by simp[bN],rfl⟩
 | o :: l,acc=>by
  obtain⟨r,h,hl⟩:=lO l (acc++[dW acc o])
  exact⟨dW acc o :: r,by simp[bN,h],by simp[hl]⟩
theorem lP:∀(l:List Oper) (acc:List Nat) (k:Nat) (o:Oper),l[k]?=some o→(bN l acc)[acc.length+k]?=some (dW ((bN l acc).take (acc.length+k)) o)
 | [],_,_,_,h=>by simp at h
 | x :: l,acc,0,o,h=>by
  simp at h;subst h
  obtain⟨r,h,_⟩:=lO l (acc++[dW acc x])
  simp[bN,h]
 | x :: l,acc,k+1,o,h=>by
  have:=lP l (acc++[dW acc x]) k o (by simpa using h)
  simp only[List.length_append,List.length_singleton]at this
  simp only[bN]
  rw[show acc.length+(k+1)=acc.length+1+k by omega]
  exact this
theorem jP (acc:List Nat)(t:Nat):∀(l:List Nat) (s:Nat),(l.foldl (fun s j=>s ||| 2^j ||| acc.getD j 0) s).testBit t=true→s.testBit t=true∨∃j∈l,t=j∨(acc.getD j 0).testBit t=true
 | [],s,h=>.inl h
 | x :: l,s,h=>by
  rcases jP acc t l _ h with h|⟨j,hj,h⟩
  ·simp only[Nat.testBit_or,Bool.or_eq_true,Nat.testBit_two_pow,decide_eq_true_eq]at h
   rcases h with(h|h)|h
   ·exact .inl h
   ·exact .inr ⟨x,by simp,.inl h.symm⟩
   ·exact .inr ⟨x,by simp,.inr h⟩
  ·exact .inr ⟨j,by simp[hj],h⟩
theorem lQ {acc:List Nat}{o:Oper}{t:Nat}(h:(dW acc o).testBit t=true):∃j∈aU o,t=j∨(acc.getD j 0).testBit t=true:=by
 rcases jP acc t _ _ h with h|h
 ·simp at h
 ·exact h
theorem lR {ops:Array Oper}{D:Nat→Prop}(hD:∀i o,ops[i]?=some o→D i→∀j∈aU o,j<i∧D j) :
  ∀(i:Nat) (o:Oper) (t:Nat),ops[i]?=some o→(∀j∈aU o,j<i∧D j)→((bN ops.toList []).getD i 0).testBit t=true→D t:=by
 intro i
 induction i using Nat.strongRecOn with
 | _ i ih =>
  intro o t ho hp hb
  have h1:=lP ops.toList [] i o (by simpa using ho)
  simp only[List.length_nil,Nat.zero_add]at h1
  rw[List.getD_eq_getElem?_getD,h1,Option.getD_some]at hb
  obtain⟨j,hj,h⟩:=lQ hb
  obtain⟨aD,G1⟩:=hp j hj
  rcases h with rfl|h
  ·exact G1
  ·rw[List.getD_eq_getElem?_getD,List.getElem?_take,if_pos aD,←List.getD_eq_getElem?_getD]at h
   have gm:i<ops.size:=(Array.getElem?_eq_some_iff.1 ho).1
   have G2:ops[j]?=some ops[j]:=Array.getElem?_eq_getElem (Nat.lt_trans aD gm)
   exact ih j aD ops[j] t G2 (fun k hk=>hD j _ G2 G1 k hk) h
def Fw (r:Option Nat):Fence:={ fn:=fun _=>True,depth:=none,alive:=false,round:=r }
theorem lS {r r':Option Nat}{n:Nat}{P:Program}{f:FuncId}{args:Array Value}{w:World}{K:Ending→World→Prop}(h:CallsIn (Fw r) n P f args w K):CallsIn (Fw r') n P f args w K:=h
section
variable {P:Program} {w0 w:World} {g:Ctx} {H H':aa} {R:ai} {a:Act} {n:Nat} {ops:Array Oper}
theorem ar {mu:Bool}{o:Oper}{st:List Rd}{y:O}(h:bX P n ops mu o st=some y):∃op gd,bd P mu o.op=some op∧jO ops o.guard=some gd∧y=⟨o.dst,op,gd,st⟩ ∧
  (∀t∈tmpsOf o op gd,t<n)∧∀d,o.dst=some d→d<n:=by
 unfold bX at h
 cases h1:bd P mu o.op with
 | none=>simp[h1]at h
 | some op=>cases h2:jO ops o.guard with
  | none=>simp[h1,h2]at h
  | some gd =>
   simp only[h1,h2]at h
   split at h
   ·rename_i hh
    simp only[Bool.and_eq_true,List.all_eq_true,decide_eq_true_eq]at hh
    exact⟨op,gd,rfl,rfl,(Option.some.inj h).symm,hh.1,fun d hd=>by have:=hh.2;simp[hd]at this;exact this⟩
   ·cases h
def cB (g:Ctx)(w:World)(R:ai)(a:Act)(ts:List Nat):Prop:=∀t∈ts,VR g w (R t) (a.tmps.getD t undef)
theorem cB.sub {ts yL:List Nat}(h:cB g w R a ts)(hs:∀t∈yL,t∈ts):cB g w R a yL:=fun t ht=>h t (hs t ht)
theorem jQ {l:List Operand}(h:cB g w R a (bQ l)):RV g w R a.eval l:=by
 intro x hx y hy
 cases x with
 | tmp t=>simp only[aj,Option.some.injEq]at hy;subst hy;exact h t (by simp only[bQ,List.mem_filterMap];exact⟨_,hx,rfl⟩)
 | const v =>
  simp only[aj,Option.map_eq_some_iff]at hy
  obtain⟨t,h1,rfl⟩:=hy
  exact eO h1
 | «global» x=>simp[aj]at hy
 | func f=>simp only[aj,Option.some.injEq]at hy;subst hy;exact .fn rfl (by simp)
theorem gx {o:Oper}{gd:Gd}(hg:jO ops o.guard=some gd)(hn:a.tmps.size=n)(hd:∀t∈e9 gd,t<n)(h:cB g w R a (e9 gd)):Region.wanted o (yielded ops a.tmps)=av R gd:=by
 unfold Region.wanted
 cases ho:o.guard with
 | none=>rw[ho]at hg;simp only[jO,Option.some.injEq]at hg;subst hg;rfl
 | some p =>
  obtain⟨j,b⟩:=p
  rw[ho]at hg
  simp only[jO]at hg
  cases fw:(ops[j]?).bind (·.dst)with
  | none=>simp[fw]at hg
  | some d =>
   simp only[fw,Option.some.injEq]at hg;subst hg
   have hv:=h d (by simp[e9])
   have aD:d<a.tmps.size:=by rw[hn];exact hd d (by simp[e9])
   simp only[yielded,fw,Option.bind_some,av]
   rw[Array.getD_eq_getD_getElem?,Array.getElem?_eq_getElem aD,Option.getD_some]at hv
   rw[Array.getElem?_eq_getElem aD]
   generalize R d=t at *
   generalize a.tmps[d]=v at *
   cases hv<;>simp
theorem dY {mu:Bool}{o:Op}{y:tT}(h:bd P mu o=some y):bI P mu o=some y∨(y=.bl (.c .dv) []∧wQ o=true):=by
 unfold bd at h
 split at h
 ·rename_i e;cases h;exact .inl e
 ·split at h
  ·rename_i hc;cases h
   simp only[Bool.and_eq_true]at hc
   exact .inr ⟨rfl,hc.2⟩
  ·cases h
theorem cU {mu:Bool}{o:Op}{op:tT}(h:bd P mu o=some op):∀c,o≠.defer c:=by
 rintro c rfl
 rcases dY h with h|⟨_,h⟩
 ·simp[bI,aB]at h
 ·cases h
theorem dG {mu:Bool}{o:Op}{b:Bo}(h:bd P mu o=some (.b b)):aB P mu o=some b:=by
 replace h:=(dY h).resolve_right fun e=>by cases e.1
 unfold bI at h
 split at h
 ·split at h
  ·simp only[Option.map_eq_some_iff]at h;obtain⟨_,_,h⟩:=h;cases h
  ·split at h
   ·rename_i h1 h2
    cases h
    simp only[aB,h1,h2]
   ·cases h
 ·simp only[Option.map_eq_some_iff]at h;obtain⟨_,_,h⟩:=h;cases h
 ·simp only[Option.map_eq_some_iff]at h;obtain⟨x,h1,h⟩:=h;cases h;exact h1
theorem qX {r:Option Nat}{mu:Bool}{o:Oper}{b:Bo}{t:T}(hc:bd P mu o.op=some (.b b))(h:SR w0 g H w)(hr:cB g w R a (bQ o.op.operands.toList))(he:ae R H b=some (t,H')) :
  ∃v w' g',(∀(K:Act→World→Prop) (Q:Exit→Act→World→Prop),K (a.put o.dst v) w'→o.wpIn (Fw r) 0 P a w K Q)∧Le g w g' w'∧SR w0 g' H' w'∧VR g' w' t v∧Fr g H g' H':=by
 obtain⟨nx,v,w',g',h1,h2,h3⟩:=zj (fun _=>rfl) (dG hc) h (jQ hr) he
 refine⟨v,w',g',fun K Q hk=>⟨fun _ _=>trivial,?_⟩,h3⟩
 rw[Oper.semAt_eq _ _ _ (cU hc),h1]
 rcases h2 with rfl|⟨rfl,rfl⟩
 ·exact hk
 ·exact hk
theorem nz {mu:Bool}{o:Op}{x:X}(h:aB P mu o=some (.hU x)):∃it,o=.next it false∧aj it=some x:=by
 cases o
 case next it str =>
  cases str<;>simp only[aB]at h<;>(try (cases h;done))
  simp only[Option.map_eq_some_iff,Bo.hU.injEq]at h
  obtain⟨y,h1,rfl⟩:=h
  exact⟨it,rfl,h1⟩
 case range ty m =>
  simp only[aB]at h
  split at h
  ·simp only[Option.map_eq_some_iff]at h;obtain⟨_,_,h⟩:=h;cases h
  ·cases h
 case makeMap ty r =>
  cases r<;>simp only[aB]at h<;>cases h
 case makeFunc fn first ew =>
  cases fn<;>simp only[aB]at h<;>(try (cases h;done))
  split at h
  ·simp only[Option.map_eq_some_iff]at h;obtain⟨_,_,h⟩:=h;cases h
  ·cases h
 case call c =>
  obtain⟨callee,args,dt⟩:=c
  cases callee
  case value x =>
   cases x<;>simp only[aB]at h<;>(try (cases h;done))
   split at h<;>cases h
  case builtin b =>
   simp only[aB,Option.bind_eq_some_iff]at h
   obtain⟨l,_,h⟩:=h
   unfold dF at h
   split at h
   ·have hz:∀tl l b',lH P tl l=some b'→b'≠.hU x:=by
     rintro tl l b' hb rfl
     simp only[lH]at hb
     (repeat' split at hb)<;>first|(cases hb;done)|(simp at hb;done)
    split at h
    ·rename_i b' hb;exact absurd (Option.some.inj h) (hz _ _ _ hb)
    ·simp only[eP]at h
     (repeat' split at h)<;>first|(cases h;done)|(simp at h;done)
   all_goals ((repeat' split at h)<;>first|(cases h;done)|(simp at h;done))
  all_goals (simp only[aB]at h;cases h)
 all_goals simp only[aB]at h
 all_goals first|(cases h;done)|(simp only[Option.map_eq_some_iff]at h;obtain⟨_,_,h⟩:=h;cases h;done)|skip
 all_goals (try simp only[Option.bind_eq_some_iff]at h)
 all_goals (try (obtain⟨_,_,h⟩:=h))
 all_goals (try simp only[qO,jL,jK,fu,nq,gn,pt,gp,pw,px,nr]at h)
 all_goals first|((repeat' split at h)<;>first|(cases h;done)|(simp at h;done))|skip
theorem qY {r:Option Nat}{mu:Bool}{o:Oper}{x:X}{b bi:Nat}{es:List (T×T)}{ix:List Nat}{cur:Option Nat}(hc:bd P mu o.op=some (.b (.hU x)))(h:SR w0 g H w)(hr:cB g w R a (bQ o.op.operands.toList))
  (hx:x.ev R=.ptr bi 0) (hb:H[b]?=some (.ct es ix bi cur)) :
  ∃t H' v w' g',fE H b bi es ix t H'∧(∀(K:Act→World→Prop) (Q:Exit→Act→World→Prop),K (a.put o.dst v) w'→o.wpIn (Fw r) 0 P a w K Q)∧Le g w g' w'∧SR w0 g' H' w'∧VR g' w' t v∧Fr g H g' H':=by
 have jJ:=cU hc
 obtain⟨it,ho,h1⟩:=nz (dG hc)
 have hv:=jQ hr it (by rw[ho];simp[Op.operands]) x h1
 rw[hx]at hv
 obtain⟨t,H',hn,v,w',g',aJ,h3⟩:=vd (P:=P) (ty:=o.type) h hv hb
 refine⟨t,H',v,w',g',hn,fun K Q hk=>⟨fun _ _=>trivial,?_⟩,h3⟩
 rw[Oper.semAt_eq _ _ _ jJ]
 have e:(execOp a.eval o).run P w=.ok (.value v) w':=by
  obtain⟨dst,op,ty,pos,after,guard⟩:=o
  simp only at ho;subst ho
  simp[execOp,aJ]
 rw[e]
 exact hk
theorem dZ {f:FuncId}{args:Array Value}(hf:bc P f=true):(callFunc f args).run P w=.ok (.enter f args) w:=by
 unfold bc at hf
 cases h:P.funcs[f]? with
 | none=>simp[h]at hf
 | some fn =>
  simp only[h,Bool.and_eq_true,bne_iff_ne,ne_eq]at hf
  obtain⟨c,hb⟩:=Option.isSome_iff_exists.1 hf.2
  simp[callFunc,h,hf.1,hb]
def nA (r:Option Nat)(P:Program)(o:Oper)(a:Act)(K:Act→World→Prop):Ending→World→Prop:=fun e w'=>∃v,e=.returned v∧K (a.put o.dst v) w'
theorem upon_enter {r:Option Nat}{o:Oper}{f:FuncId}{args:Array Value}{K:Act→World→Prop}{Q:Exit→Act→World→Prop}(h:CallsIn (Fw none) 0 P f args w (nA r P o a K)) :
  o.uponIn (Fw r) 0 P a K Q (.ok (.enter f args) w):=by
 rw[Oper.uponIn_enter]
 refine⟨fun h=>by simp[Fw]at h,(lS h).mono fun e w' he=>?_⟩
 obtain⟨v,rfl,hk⟩:=he
 exact hk
theorem kJ {mu:Bool}{op:Op}{f:Nat}{aq:List X}(h:bd P mu op=some (.call f aq)) :
  ∃args dt,op=.call { callee:=.value (.func f),args:=args,argTypes:=dt }∧bc P f=true∧cg args.toList=some aq:=by
 replace h:=(dY h).resolve_right fun e=>by cases e.1
 cases op
 case call c =>
  obtain⟨callee,args,dt⟩:=c
  cases callee
  case value x =>
   cases x
   case func f' =>
    simp only[bI]at h
    split at h
    ·rename_i hc
     simp only[Option.map_eq_some_iff]at h
     obtain⟨yJ,h1,h2⟩:=h
     cases h2
     exact⟨args,dt,rfl,hc,h1⟩
    ·split at h<;>cases h
   all_goals simp[bI,aB]at h
  all_goals (simp only[bI,Option.map_eq_some_iff]at h;obtain⟨_,_,h⟩:=h;cases h)
 all_goals (simp only[bI,Option.map_eq_some_iff]at h;obtain⟨_,_,h⟩:=h;cases h)
theorem fb {mu:Bool}{op:Op}{x:X}{aq:List X}(h:bd P mu op=some (.bl x aq))(hx:x≠.c .dv) :
  ∃t args dt,x=.r t∧op=.call { callee:=.value (.tmp t),args:=args,argTypes:=dt }∧cg args.toList=some aq:=by
 replace h:=(dY h).resolve_right fun e=>by cases e.1;exact hx rfl
 cases op
 case call c =>
  obtain⟨callee,args,dt⟩:=c
  cases callee
  case value x =>
   cases x
   case tmp t =>
    simp only[bI,Option.map_eq_some_iff]at h
    obtain⟨yJ,h1,h2⟩:=h
    cases h2
    exact⟨t,args,dt,rfl,rfl,h1⟩
   case func f' =>
    simp only[bI]at h
    split at h
    ·simp only[Option.map_eq_some_iff]at h
     obtain⟨yJ,h1,h2⟩:=h
     cases h2
    ·split at h<;>cases h
   all_goals simp[bI,aB]at h
  all_goals (simp only[bI,Option.map_eq_some_iff]at h;obtain⟨_,_,h⟩:=h;cases h)
 all_goals (simp only[bI,Option.map_eq_some_iff]at h;obtain⟨_,_,h⟩:=h;cases h)
theorem pE {r:Option Nat}{mu:Bool}{o:Oper}{f:Nat}{aq:List X}(hc:bd P mu o.op=some (.call f aq))(hr:cB g w R a (bQ o.op.operands.toList)) :
  ∃args:List Value,ay g w (aq.map (X.ev R)) args ∧
   ∀(K:Act→World→Prop) (Q:Exit→Act→World→Prop),bc P f=true→CallsIn (Fw none) 0 P f args.toArray w (nA r P o a K)→o.wpIn (Fw r) 0 P a w K Q:=by
 have jJ:=cU hc
 obtain⟨args,dt,ho,db,h1⟩:=kJ hc
 have hv:=cj (ρ:=a.eval) args.toList aq h1 (jQ (hr.sub fun t ht=>by
  simp only[bQ,List.mem_filterMap]at ht ⊢
  obtain⟨x,hx,e⟩:=ht
  exact⟨x,by rw[ho];simp only[Op.operands,Call.operands];simp at hx;simp[hx],e⟩))
 refine⟨args.toList.map a.eval,hv,fun K Q _ hk=>⟨fun _ _=>trivial,?_⟩⟩
 rw[Oper.semAt_eq _ _ _ jJ]
 have aJ:(execOp a.eval o).run P w=.ok (.enter f (args.toList.map a.eval).toArray) w:=by
  have:=dZ (P:=P) (w:=w) (args:=(args.toList.map a.eval).toArray) db
  have e2:(args.toList.map a.eval).toArray=args.map a.eval:=by rw[←Array.toList_map]
  rw[e2]at this ⊢
  simp only[execOp,ho,resolve,Act.eval,Deferred.ofValue,invoke]
  simpa using this
 rw[aJ]
 exact upon_enter hk
theorem nB {r:Option Nat}{mu:Bool}{o:Oper}{x:X}{f:Nat}{cs:List T}{aq:List X}(hc:bd P mu o.op=some (.bl x aq))(hr:cB g w R a (bQ o.op.operands.toList))(hx:x.ev R=.fn f cs) :
  ∃args:List Value,ay g w (aq.map (X.ev R)++cs) args ∧
   ∀(K:Act→World→Prop) (Q:Exit→Act→World→Prop),bc P f=true→CallsIn (Fw none) 0 P f args.toArray w (nA r P o a K)→o.wpIn (Fw r) 0 P a w K Q:=by
 have jJ:=cU hc
 obtain⟨t,args,dt,rfl,ho,h1⟩:=fb hc (by rintro rfl;cases hx)
 have hv:=cj (ρ:=a.eval) args.toList aq h1 (jQ (hr.sub fun t ht=>by
  simp only[bQ,List.mem_filterMap]at ht ⊢
  obtain⟨x,hx,e⟩:=ht
  exact⟨x,by rw[ho];simp only[Op.operands,Call.operands];simp at hx;simp[hx],e⟩))
 have hf:=hr t (by rw[ho];simp only[bQ,List.mem_filterMap];exact⟨.tmp t,by simp[Op.operands,Call.operands],rfl⟩)
 simp only[X.ev]at hx
 rw[hx]at hf
 generalize pB:a.tmps.getD t undef=vf at hf
 cases hf with
 | @fn _ _ vs hl kX =>
  refine⟨args.toList.map a.eval++vs.toList,hv.append ⟨by simp[hl],fun i t v ha hb=>kX i t v ha (by simpa using hb)⟩,fun K Q db hk=>⟨fun _ _=>trivial,?_⟩⟩
  rw[Oper.semAt_eq _ _ _ jJ]
  have aJ:(execOp a.eval o).run P w=.ok (.enter f (args.toList.map a.eval++vs.toList).toArray) w:=by
   have:=dZ (P:=P) (w:=w) (args:=(args.toList.map a.eval++vs.toList).toArray) db
   have e2:(args.toList.map a.eval++vs.toList).toArray=args.map a.eval++vs:=by rw[←Array.toList_map];simp
   rw[e2]at this ⊢
   have e:a.eval (.tmp t)=.func (.func f) #[] vs:=pB
   simp only[execOp,ho,resolve,e,Deferred.ofValue,invoke]
   simpa using this
  rw[aJ]
  exact upon_enter hk
end
def fc:T→Option Nat
 | .ptr b _ | .map b=>some b
 | _=>none
def ea (R:ai)(y:It):Option Nat:=match y.o.d,y.o.op with
 | some d,.b (.alloc _)=>fc (R d)
 | some d,.b .nV=>fc (R d)
 | _,_=>none
def jq (g:Ctx)(N:Nat)(R:ai)(H:aa)(y:It):Prop :=
 (av R y.o.g=false∧∀d,y.o.d=some d→R d=aw) ∨
 (av R y.o.g=true∧∃d b,y.o.d=some d∧y.o.op=.b b∧(
  ((gw b=.pure∨gw b=.read)∧ae R H b=some (R d,H)) ∨
  (∃k z,b=.alloc z∧R d=.ptr k 0∧H[k]?=some (.cells z)∧g.φ k=none∧N≤k) ∨
  (∃k,b=.nV∧R d=.map k∧H[k]?=some (.map [])∧g.φ k=none∧N≤k)))
theorem jq.mono {g g':Ctx}{N:Nat}{R R':ai}{H H':aa}{y:It}(h:jq g N R H y)(hg:∀t∈e9 y.o.g,R' t=R t)(hr:∀t∈lL y.o.op,R' t=R t)(hd:∀d,y.o.d=some d→R' d=R d)
  (A3:∀d b,av R y.o.g=true→y.o.d=some d→y.o.op=.b b→gw b=.read→ae R H b=some (R d,H)→ae R H' b=some (R d,H'))
  (kY:∀k x,ea R y=some k→H[k]?=some x→(∀e,x≠.tok e)→g.φ k=none→N≤k→H'[k]?=some x∧g'.φ k=none):jq g' N R' H' y:=by
 have hw:av R' y.o.g=av R y.o.g:=eH hg
 rcases h with⟨h1,h2⟩|⟨h1,d,b,h2,h3,h4⟩
 ·exact .inl ⟨hw▸h1,fun d e=>by rw[hd d e];exact h2 d e⟩
 ·refine .inr ⟨hw▸h1,d,b,h2,h3,?_⟩
  rw[hd d h2]
  rw[h3]at hr
  rcases h4 with⟨hk,he⟩|⟨k,z,rfl,e1,e2,e3,e4⟩|⟨k,rfl,e1,e2,e3,e4⟩
  ·refine .inl ⟨hk,?_⟩
   rw[iD (R:=R') (R':=R) hr]
   rcases hk with hk|hk
   ·exact(eR hk he).2 H'
   ·exact A3 d b h1 h2 h3 hk he
  ·have hm:=kY k _ (by simp[ea,h2,h3,e1,fc]) e2 (by simp) e3 e4
   exact .inr (.inl ⟨k,z,rfl,e1,hm.1,hm.2,e4⟩)
  ·have hm:=kY k _ (by simp[ea,h2,h3,e1,fc]) e2 (by simp) e3 e4
   exact .inr (.inr ⟨k,rfl,e1,hm.1,hm.2,e4⟩)
theorem iE (a:Act)(d:Option Nat)(v:Value)(t:Nat)(hd:∀e,d=some e→e<a.tmps.size):(a.put d v).tmps.getD t undef=if d=some t then v else a.tmps.getD t undef:=by
 cases d with
 | none=>simp[Act.put]
 | some d =>
  have aD:=hd d rfl
  simp only[Act.put]
  by_cases e:d=t
  ·subst e;simp[Array.getD_eq_getD_getElem?,aD]
  ·rw[if_neg (by simpa using e),Array.getD_eq_getD_getElem?,Array.getD_eq_getD_getElem?,Array.getElem?_setIfInBounds_ne e]
theorem iG (a:Act)(d:Option Nat)(v:Value):(a.put d v).tmps.size=a.tmps.size:=by cases d<;>simp[Act.put]
theorem dc (a:Act)(d:Option Nat)(v:Value):(a.put d v).defers=a.defers:=by cases d<;>simp[Act.put]
theorem aP {R:ai}{d:Option Nat}{v:T}{t:Nat}(h:d≠some t):aA R d v t=R t:=by
 cases d with
 | none=>rfl
 | some d=>simp only[aA,jj];rw[if_neg];rintro rfl;exact h rfl
theorem du {R:ai}{v:T}{t:Nat}:aA R (some t) v t=v:=by simp[aA,jj]
theorem SR.EE {w0 w:World}{g:Ctx}{H:aa}(h:SR w0 g H w){x:B}(hx:(∃cs,x=.cells cs)∨∃es,x=.map es):SR w0 g (H++[x]) w:=by
 refine⟨h.size,h.er,h.pb,h.fresh,fun b y hy=>by have:=h.gG b y hy;simp;omega,fun t e y hy=>by have:=h.cd t e y hy;simp;omega,fun b y hy=>?_,h.env⟩
 by_cases hb:b=H.length
 ·subst hb
  rw[bE]at hy
  have hn:=h.tX (b:=H.length) (Nat.le_refl _)
  cases hy
  rcases hx with⟨cs,rfl⟩|⟨es,rfl⟩<;>intro r o q hq<;>rw[hn]at hq<;>cases hq
 ·exact h.dy b y (aN hb hy)
theorem SR.drew {w0 w w':World}{g:Ctx}{H:aa}(h:SR w0 g H w)(tr:Tr w w' b7 cL)(hz:w'.heap.size=w.heap.size):SR w0 g H w'∧Le g w g w':=by
 have le:Le g w g w':=Le.cz tr (fun _ _ h=>h) (fun _ _ h=>h) (fun _ _ _ h=>h) (fun _ _ hs=>hs.elim)
 refine⟨?_,le⟩
 exact h.step (fun _=>False) tr le (fun _ _ hs=>hs.elim) (fun _ hm=>hm.elim) (fun r o hr=>h.fresh r o (by omega)) h.gG h.cd (fun _ _ _=>rfl) (fun _ _ _ _=>⟨id,id⟩) (fun _ _ _ _=>rfl) (fun b x hx=>.inl ⟨id,hx⟩)
section
variable {P:Program} {w0 w:World} {g:Ctx} {H:aa} {a:Act}
theorem lT {r:Option Nat}{mu:Bool}{o:Oper}{z:List T}{k:Nat}(hm:nw o.op=true)(hc:bd P mu o.op=some (.b (.alloc z)))(h:SR w0 g H w)(hk:H[k]?=some (.cells z))(hn:g.φ k=none) :
  ∃v w' g',(∀(K:Act→World→Prop) (Q:Exit→Act→World→Prop),K (a.put o.dst v) w'→o.wpIn (Fw r) 0 P a w K Q)∧Le g w g' w'∧SR w0 g' H w'∧VR g' w' (.ptr k 0) v∧∀b,g.φ b=none→b≠k→g'.φ b=none:=by
 obtain⟨dst,op,ty,pos,after,guard⟩:=o
 simp only at hm hc
 have hc:=dG hc
 unfold nw at hm
 split at hm
 ·rename_i t _
  simp only[aB,Option.map_eq_some_iff]at hc
  obtain⟨z',h1,h2⟩:=hc
  cases h2
  obtain⟨i,zv,h2,h3,h4⟩:=cm h1
  obtain⟨hv,ho⟩:=br (g:=g) (w:=w) _ _ h4
  have tr:Tr w w b7 cL:=Tr.refl w
  obtain⟨le,sr,fr⟩:=h.mut (c:=zv.cells) (ty:=t) (H':=H) (b:=k) tr rfl hk hn (fun b' x _ hx=>.inl hx) (Nat.le_refl _) (fun b' x hx _ _ _=>hx) (by simpa using hv.yV ho)
  refine⟨.pointer (some ⟨w.heap.size,0,none⟩),_,_,fun K Q hk=>⟨fun _ _=>trivial,?_⟩,le,sr,.ptr (r:=w.heap.size) (o:=0) (q:=zv.cells.size) (by simp[Ctx.at]),fun b hb aF=>by simp only[Ctx.at,Ctx.row];rw[if_neg aF];exact hb⟩
  rw[Oper.semAt_eq _ _ _ (by rintro c⟨⟩)]
  have aJ:(execOp a.eval ⟨dst,.alloc t,ty,pos,after,guard⟩).run P w=.ok (.value (.pointer (some ⟨w.heap.size,0,none⟩))) (w.alloc (.cells zv.cells t)):=by
   simp[execOp,Instr.alloc,zeroValue,au h2,h3,newVar,newRow]
  rw[aJ]
  exact hk
 ·simp[aB]at hc
 ·cases hm
theorem pF {r:Option Nat}{mu:Bool}{o:Oper}{k:Nat}(hm:nw o.op=true)(hc:bd P mu o.op=some (.b .nV))(h:SR w0 g H w)(hk:H[k]?=some (.map []))(hn:g.φ k=none) :
  ∃v w' g',(∀(K:Act→World→Prop) (Q:Exit→Act→World→Prop),K (a.put o.dst v) w'→o.wpIn (Fw r) 0 P a w K Q)∧Le g w g' w'∧SR w0 g' H w'∧VR g' w' (.map k) v∧∀b,g.φ b=none→b≠k→g'.φ b=none:=by
 obtain⟨dst,op,ty,pos,after,guard⟩:=o
 simp only at hm hc
 have hc:=dG hc
 unfold nw at hm
 split at hm
 ·simp[aB]at hc
 ·rename_i t _
  obtain⟨le,sr⟩:=h.qC (H':=H) (b:=k) hk hn (fun b' x _ hx=>hx) (Nat.le_refl _)
  refine⟨.map (some w.heap.size),_,_,fun K Q hk=>⟨fun _ _=>trivial,?_⟩,le,sr,.map (r:=w.heap.size) (o:=0) (q:=0) (by simp[Ctx.at]),fun b hb aF=>by simp only[Ctx.at,Ctx.row];rw[if_neg aF];exact hb⟩
  rw[Oper.semAt_eq _ _ _ (by rintro c⟨⟩)]
  have aJ:(execOp a.eval ⟨dst,.makeMap t none,ty,pos,after,guard⟩).run P w=.ok (.value (.map (some w.heap.size))) (w.alloc (.map #[] 0)):=by
   simp[execOp,Instr.makeMap]
  rw[aJ]
  exact hk
 ·cases hm
end
theorem Fr.ext (g:Ctx)(H l:aa):Fr g H g (H++l):=⟨by simp,fun b x hx _ hn=>⟨dX hx,hn⟩⟩
structure Dr (P:Program)(n:Nat)(ops:Array Oper)(mu:Nat→Bool)(w0:World)(df:List Deferred)(mk:T)(g0:Ctx)(ws:World)(H0:aa)
  (pre:List It) (L:Array Bool) (g:Ctx) (R:ai) (H:aa) (a:Act) (w:World):Prop where
 nC:L.size=ops.size
 cmp:∀y∈pre,∃o,ops[y.i]?=some o∧(∃st,bX P n ops (mu y.i) o st=some y.o)∧y.ts=tmpsOf o y.o.op y.o.g
 rd:∀y∈pre,∀z∈pre,z.early=true→∀d,z.o.d=some d→d∈y.ts→((bN ops.toList []).getD y.i 0).testBit z.i=true
 dd:∀y∈pre,∀z∈pre,∀d,y.o.d=some d→z.o.d=some d→y.i=z.i
 kl:∀y∈pre,y.early=true→∀o,ops[y.i]?=some o→ua y.o=.make→nw o.op=true
 uniq:∀y∈pre,∀z∈pre,y.i=z.i→y=z
 jr:∀y∈pre,∀o,ops[y.i]?=some o→∀j∈aU o,j<y.i
 closed:∀i o,ops[i]?=some o→L.getD i false=true→∀j∈aU o,j<i∧L.getD j false=true
 sub:∀i,L.getD i false=true→∃y∈pre,y.i=i
 iH:∀y∈pre,y.early=false→L.getD y.i false=true
 sr:SR w0 g H w
 le:Le g0 ws g w
 fr:Fr g0 H0 g H
 kK:a.tmps.size=n
 kL:∀t,t<n→(∀y∈pre,L.getD y.i false=false→y.o.d≠some t)→VR g w (R t) (a.tmps.getD t undef)
 bz:∀y∈pre,L.getD y.i false=false→jq g H0.length R H y
 inj:∀y∈pre,∀z∈pre,L.getD y.i false=false→L.getD z.i false=false→y.i≠z.i→∀k,ea R y=some k→ea R z≠some k
 wS:a.defers=df
 wT:R n=mk
section
variable {P:Program} {n:Nat} {ops:Array Oper} {mu:Nat→Bool} {w0 w ws:World} {df:List Deferred} {mk:T} {g g0:Ctx} {H H0 H':aa} {pre:List It} {L:Array Bool} {R:ai} {a:Act} {r:Option Nat}
theorem eT {i:Nat}(h:i∈Region.ready .any ops L):L.getD i false=false∧∃o,ops[i]?=some o∧∀j∈aU o,L.getD j false=true:=by
 obtain⟨h1,o,h2,h3⟩:=mem_ready.1 h
 refine⟨?_,o,h2,fun j hj=>?_⟩
 ·cases hi:L[i]? with
  | none=>simp[Array.getD_eq_getD_getElem?,hi]at h1
  | some b=>simp[Array.getD_eq_getD_getElem?,hi]at h1 ⊢;exact h1
 ·simp only[aU,List.mem_map,List.mem_filter]at hj
  obtain⟨e,⟨he,hb⟩,rfl⟩:=hj
  exact h3 e (by simpa using he) hb
theorem Dr.bit (h:Dr P n ops mu w0 df mk g0 ws H0 pre L g R H a w){i:Nat}{o:Oper}{t:Nat}(ho:ops[i]?=some o)(hp:∀j∈aU o,j<i∧L.getD j false=true)
  (hb:((bN ops.toList []).getD i 0).testBit t=true):L.getD t false=true :=
 lR (D:=fun i=>L.getD i false=true) h.closed i o t ho hp hb
theorem bq {i j:Nat}(hi:i<L.size):(L.setIfInBounds i true).getD j false=if i=j then true else L.getD j false:=by
 by_cases e:i=j
 ·subst e;simp[Array.getD_eq_getD_getElem?,hi]
 ·rw[if_neg e,Array.getD_eq_getD_getElem?,Array.getD_eq_getD_getElem?,Array.getElem?_setIfInBounds_ne e]
theorem cR {o:Oper}{y:It}(h:y.ts=tmpsOf o y.o.op y.o.g):(∀t∈e9 y.o.g,t∈y.ts)∧(∀t∈lL y.o.op,t∈y.ts)∧∀t∈bQ o.op.operands.toList,t∈y.ts:=by
 rw[h];unfold tmpsOf
 exact⟨fun t ht=>by simp[ht],fun t ht=>by simp[ht],fun t ht=>by simp[ht]⟩
theorem Dr.look (h:Dr P n ops mu w0 df mk g0 ws H0 pre L g R H a w){i:Nat}{o:Oper}{ts:List Nat}(ho:ops[i]?=some o)(hp:∀j∈aU o,j<i∧L.getD j false=true)(hn:∀t∈ts,t<n)
  (hz:∀z∈pre,z.early=true→∀d,z.o.d=some d→d∈ts→((bN ops.toList []).getD i 0).testBit z.i=true):cB g w R a ts:=by
 intro t ht
 refine h.kL t (hn t ht) fun z je hu hd=>?_
 cases he:z.early with
 | false=>rw[h.iH z je he]at hu;cases hu
 | true=>rw[h.bit ho hp (hz z je he t hd ht)]at hu;cases hu
theorem Dr.late (h:Dr P n ops mu w0 df mk g0 ws H0 pre L g R H a w){y:It}(hy:y∈pre)(hr:y.i∈Region.ready .any ops L) :
  ∃v w' g',(∀(K:Act→World→Prop) (Q:Exit→Act→World→Prop),K (a.put y.o.d v) w'→wpOpIn (Fw r) 0 P ops Q y.i K a w) ∧
   Dr P n ops mu w0 df mk g0 ws H0 pre (L.setIfInBounds y.i true) g' R H (a.put y.o.d v) w':=by
 obtain⟨zk,o,ho,EF⟩:=eT hr
 obtain⟨o',fq,⟨st,bM⟩,p8⟩:=h.cmp y hy
 rw[ho]at fq;cases fq
 obtain⟨op,gd,Ai,G3,zl,EG,Aj⟩:=ar bM
 have hd:y.o.d=o.dst:=by rw[zl]
 have A4:y.o.op=op:=by rw[zl]
 have A5:y.o.g=gd:=by rw[zl]
 obtain⟨H8,JQ,H9⟩:=cR p8
 have hp:∀j∈aU o,j<y.i∧L.getD j false=true:=fun j hj=>⟨h.jr y hy o ho j hj,EF j hj⟩
 have lu:cB g w R a y.ts:=h.look ho hp (fun t ht=>EG t (by rw[p8,A4,A5]at ht;exact ht)) (h.rd y hy)
 have DN:Region.wanted o (yielded ops a.tmps)=av R y.o.g:=by
  rw[A5];exact gx G3 h.kK (fun t ht=>EG t (by simp[tmpsOf,ht])) (lu.sub (by rw[←A5];exact H8))
 have gm:y.i<L.size:=by rw[h.nC];exact(Array.getElem?_eq_some_iff.1 ho).1
 have EH:∀e,y.o.d=some e→e<a.tmps.size:=fun e he=>by rw[h.kK];exact Aj e (hd▸he)
 have fj:∀v w' g',Le g w g' w'→SR w0 g' H w'→(∀d,y.o.d=some d→VR g' w' (R d) v)→Fr g0 H0 g' H→(∀z∈pre,L.getD z.i false=false→z.i≠y.i→jq g' H0.length R H z) →
   Dr P n ops mu w0 df mk g0 ws H0 pre (L.setIfInBounds y.i true) g' R H (a.put y.o.d v) w':=by
  intro v w' g' le sr hv fr A6
  refine { nC:=(by simp[h.nC]),cmp:=h.cmp,rd:=h.rd,dd:=h.dd,kl:=h.kl,uniq:=h.uniq,jr:=h.jr,closed:=?_,sub:=?_,iH:=?_,sr:=sr,le:=h.le.trans le,fr:=fr,kK:=(by rw[iG];exact h.kK),kL:=?_,bz:=?_,inj:=?_,wS:=(by rw[dc];exact h.wS),wT:=h.wT }
  ·intro i oi zm nD j hj
   rw[bq gm]at nD ⊢
   by_cases e:y.i=i
   ·subst e;rw[ho]at zm;cases zm
    obtain⟨h1,h2⟩:=hp j hj
    exact⟨h1,by split<;>simp[h2]⟩
   ·rw[if_neg e]at nD
    obtain⟨h1,h2⟩:=h.closed i oi zm nD j hj
    exact⟨h1,by split<;>simp[h2]⟩
  ·intro i nD
   rw[bq gm]at nD
   by_cases e:y.i=i
   ·exact⟨y,hy,e⟩
   ·rw[if_neg e]at nD;exact h.sub i nD
  ·intro z hz he
   rw[bq gm]
   split
   ·rfl
   ·exact h.iH z hz he
  ·intro t ht Ak
   rw[iE _ _ _ _ EH]
   split
   ·rename_i e;exact hv t e
   ·rename_i e
    refine(h.kL t ht fun z hz hu hN=>?_).mono le
    by_cases ez:y.i=z.i
    ·rw[h.uniq y hy z hz ez]at e;exact e hN
    ·exact Ak z hz (by rw[bq gm,if_neg ez];exact hu) hN
  ·intro z hz hu
   rw[bq gm]at hu
   by_cases ez:y.i=z.i
   ·rw[if_pos ez]at hu;cases hu
   ·rw[if_neg ez]at hu;exact A6 z hz hu (Ne.symm ez)
  ·intro z hz z' je hu qZ
   rw[bq gm]at hu qZ
   by_cases ez:y.i=z.i
   ·rw[if_pos ez]at hu;cases hu
   ·by_cases G4:y.i=z'.i
    ·rw[if_pos G4]at qZ;cases qZ
    ·rw[if_neg ez]at hu;rw[if_neg G4]at qZ;exact h.inj z hz z' je hu qZ
 have re:∀g',Fr g H g' H→∀z∈pre,L.getD z.i false=false→z.i≠y.i→jq g' H0.length R H z:=fun g' fr z hz hu _ =>
  (h.bz z hz hu).mono (fun _ _=>rfl) (fun _ _=>rfl) (fun _ _=>rfl) (fun _ _ _ _ _ _ e=>e) (fun k x _ hx vH hn _=>fr.2 k x hx vH hn)
 rcases h.bz y hy zk with⟨hw,hu⟩|⟨hw,d,b,zn,jC,dH⟩
 ·refine⟨undef,w,g,fun K Q hk=>?_,fj undef w g (.refl _ _) h.sr (fun d e=>by rw[hu d e];exact da) h.fr (re g (.refl _ _))⟩
  unfold wpOpIn
  simp only[ho,DN,hw]
  rw[hd]at hk
  exact⟨fun _ _=>trivial,hk⟩
 ·have zo:bd P (mu y.i) o.op=some (.b b):=by rw[←jC,A4];exact Ai
  rcases dH with⟨hk,he⟩|⟨k,z,rfl,e1,e2,e3,e4⟩|⟨k,rfl,e1,e2,e3,e4⟩
  ·obtain⟨v,w',g',hs,le,sr,hv,fr⟩:=qX (r:=r) zo h.sr (lu.sub H9) he
   refine⟨v,w',g',fun K Q jF=>?_,fj v w' g' le sr (fun d' e=>by rw[zn]at e;cases e;exact hv) (h.fr.trans fr) (re g' fr)⟩
   unfold wpOpIn
   simp only[ho,DN,hw,if_true]
   exact hs K Q (by rw[←hd];exact jF)
  ·-- a variable G5 dL place
   have zp:y.early=true:=by cases he:y.early with|true=>rfl|false=>rw[h.iH y hy he]at zk;cases zk
   have kY:=h.kl y hy zp o ho (by simp[ua,jC,zn,gw])
   obtain⟨v,w',g',hs,le,sr,hv,hφ⟩:=lT (r:=r) (a:=a) kY zo h.sr e2 e3
   have EI:ea R y=some k:=by simp[ea,zn,jC,e1,fc]
   refine⟨v,w',g',fun K Q jF=>?_,fj v w' g' le sr (fun d' e=>by rw[zn]at e;cases e;rw[e1];exact hv) ⟨h.fr.1,fun b x hx vH hb=>?_⟩ fun z' je qZ aF=>?_⟩
   ·unfold wpOpIn
    simp only[ho,DN,hw,if_true]
    exact hs K Q (by rw[←hd];exact jF)
   ·obtain⟨f1,f2⟩:=h.fr.2 b x hx vH hb
    exact⟨f1,hφ b f2 (by have:=(List.getElem?_eq_some_iff.1 hx).1;omega)⟩
   ·exact(h.bz z' je qZ).mono (fun _ _=>rfl) (fun _ _=>rfl) (fun _ _=>rfl) (fun _ _ _ _ _ _ e=>e) fun k' x yS hx _ hn _ =>
     ⟨hx,hφ k' hn (by rintro rfl;exact h.inj y hy z' je zk qZ (Ne.symm aF) k' EI yS)⟩
  ·have zp:y.early=true:=by cases he:y.early with|true=>rfl|false=>rw[h.iH y hy he]at zk;cases zk
   have kY:=h.kl y hy zp o ho (by simp[ua,jC,zn,gw])
   obtain⟨v,w',g',hs,le,sr,hv,hφ⟩:=pF (r:=r) (a:=a) kY zo h.sr e2 e3
   have EI:ea R y=some k:=by simp[ea,zn,jC,e1,fc]
   refine⟨v,w',g',fun K Q jF=>?_,fj v w' g' le sr (fun d' e=>by rw[zn]at e;cases e;rw[e1];exact hv) ⟨h.fr.1,fun b x hx vH hb=>?_⟩ fun z' je qZ aF=>?_⟩
   ·unfold wpOpIn
    simp only[ho,DN,hw,if_true]
    exact hs K Q (by rw[←hd];exact jF)
   ·obtain⟨f1,f2⟩:=h.fr.2 b x hx vH hb
    exact⟨f1,hφ b f2 (by have:=(List.getElem?_eq_some_iff.1 hx).1;omega)⟩
   ·exact(h.bz z' je qZ).mono (fun _ _=>rfl) (fun _ _=>rfl) (fun _ _=>rfl) (fun _ _ _ _ _ _ e=>e) fun k' x yS hx _ hn _ =>
     ⟨hx,hφ k' hn (by rintro rfl;exact h.inj y hy z' je zk qZ (Ne.symm aF) k' EI yS)⟩
end
structure Hd (P:Program)(n:Nat)(ops:Array Oper)(mu:Nat→Bool)(pre:List It)(x:It)(o:Oper):Prop where
 ho:ops[x.i]?=some o
 co:bX P n ops (mu x.i) o x.o.gO=some x.o
 ts:x.ts=tmpsOf o x.o.op x.o.g
 st:x.early=false→x.o.gO=dz ((bN ops.toList []).getD x.i 0) pre
 pred:∀j∈aU o,j<x.i∧∃z∈pre,z.i=j
 Ia:∀z∈pre,z.early=true∨((bN ops.toList []).getD x.i 0).testBit z.i=true
 ne:∀z∈pre,z.i≠x.i
 dst:∀d,x.o.d=some d→(∀z∈pre,z.o.d≠some d∧(d∈z.ts→x.early=false∧((bN ops.toList []).getD x.i 0).testBit z.i=true))∧d∉x.ts
 EJ:∀z∈pre,∀d,z.o.d=some d→d∈x.ts→((bN ops.toList []).getD x.i 0).testBit z.i=true
 kl:x.early=true→ua x.o≠.wR∧(ua x.o=.make→nw o.op=true)
theorem pG {P:Program}{n:Nat}{ops:Array Oper}{mu:Nat→Bool}{pre:List It}{y:Nat×Bool}{x:It}(h:ny P n ops mu ((bN ops.toList []).getD y.1 0) pre y=some x):∃o,Hd P n ops mu pre x o:=by
 unfold ny at h
 generalize n3:(bN ops.toList []).getD y.1 0=bs at h
 cases ho:ops[y.1]? with
 | none=>simp[ho]at h
 | some o =>
  rw[ho]at h;dsimp only at h
  cases hc:bX P n ops (mu y.1) o (if y.2=true then []else dz bs pre)with
  | none=>rw[hc]at h;cases h
  | some o' =>
   rw[hc]at h;dsimp only at h
   split at h
   ·rename_i hk
    cases h
    subst n3
    have hI:o'.gO=if y.2=true then []else dz ((bN ops.toList []).getD y.1 0) pre:=by
     obtain⟨op,gd,_,_,e,_⟩:=ar hc;rw[e]
    simp only[qV,Bool.and_eq_true,List.all_eq_true,decide_eq_true_eq,List.any_eq_true,beq_iff_eq,Bool.or_eq_true,bne_iff_ne,ne_eq,Bool.not_eq_true']at hk
    obtain⟨⟨⟨⟨⟨k1,k2⟩,k3⟩,k4⟩,k5⟩,k6⟩:=hk
    refine⟨o,ho,by rw[hI];exact hc,rfl,fun he=>by simp only at he;rw[hI,he];rfl,k1,k2,k3,fun d hd=>?_,fun z hz d hd ht=>?_,fun he=>?_⟩
    ·simp only at hd
     rw[hd]at k4
     simp only[List.all_eq_true,Bool.and_eq_true,bne_iff_ne,ne_eq,Bool.or_eq_true,Bool.not_eq_true',List.contains_eq_mem,decide_eq_false_iff_not,decide_eq_true_eq]at k4
     exact⟨fun z hz=>⟨(k4.1 z hz).1,fun ht=>((k4.1 z hz).2.resolve_left (fun hn=>hn ht))⟩,k4.2⟩
    ·have:=k5 z hz
     rw[hd]at this
     simp only[Bool.or_eq_true,Bool.not_eq_true',List.contains_eq_mem,decide_eq_false_iff_not]at this
     exact this.resolve_left (fun hn=>hn ht)
    ·rcases k6 with k6|k6
     ·have wK:y.2=true:=he
      rw[wK]at k6;cases k6
     ·exact⟨k6.1,fun hm=>k6.2.resolve_left (fun hn=>hn hm)⟩
   ·cases h
theorem eb {P:Program}{n:Nat}{ops:Array Oper}{mu:Nat→Bool}{pre:List It}{y:Nat×Bool}{ord:List (Nat×Bool)}{dL:List It}(h:bA P n ops mu (bN ops.toList []) pre (y :: ord)=some dL) :
  ∃x l o,dL=x :: l∧Hd P n ops mu pre x o∧bA P n ops mu (bN ops.toList []) (pre++[x]) ord=some l:=by
 simp only[bA]at h
 split at h
 ·rename_i x hx
  simp only[Option.map_eq_some_iff]at h
  obtain⟨l,h1,rfl⟩:=h
  obtain⟨o,ho⟩:=pG hx
  exact⟨x,l,o,rfl,ho,h1⟩
 ·cases h
theorem aW {P:Program}{n:Nat}{ops:Array Oper}{mu:Nat→Bool}:∀(ord:List (Nat×Bool)) (pre dL:List It),bA P n ops mu (bN ops.toList []) pre ord=some dL→∀i,i<ops.size→∃y∈pre++dL,y.i=i
 | [],pre,dL,h,i,hi=>by
  simp only[bA]at h
  split at h
  ·rename_i hk
   cases h
   simp only[List.all_eq_true,List.mem_range,List.any_eq_true,beq_iff_eq]at hk
   simpa using hk i hi
  ·cases h
 | y :: ord,pre,dL,h,i,hi=>by
  obtain⟨x,l,o,rfl,_,h2⟩:=eb h
  simpa using aW ord (pre++[x]) l h2 i hi
theorem bf {P:Program}{n:Nat}{ops:Array Oper}{mu:Nat→Bool}:∀(ord:List (Nat×Bool)) (pre dL:List It),bA P n ops mu (bN ops.toList []) pre ord=some dL→∀y∈dL,(∃o,ops[y.i]?=some o∧(∀j∈aU o,j<y.i))∧∀z∈pre,z.early=true∨((bN ops.toList []).getD y.i 0).testBit z.i=true
 | [],pre,dL,h,y,hy=>by
  simp only[bA]at h
  split at h
  ·cases h;cases hy
  ·cases h
 | u :: ord,pre,dL,h,y,hy=>by
  obtain⟨x,l,o,rfl,h1,h2⟩:=eb h
  rcases List.mem_cons.1 hy with rfl|hy
  ·exact⟨⟨o,h1.ho,fun j hj=>(h1.pred j hj).1⟩,h1.Ia⟩
  ·obtain⟨h3,h4⟩:=bf ord (pre++[x]) l h2 y hy
   exact⟨h3,fun z hz=>h4 z (by simp[hz])⟩
theorem iI {b:Nat}{y:It}{d:Nat}{op:Bo}:∀(pre:List It),y∈pre→y.early=true→y.o.d=some d→y.o.op=.b op→gw op=.read→b.testBit y.i=false→⟨d,op,y.o.g⟩∈dz b pre
 | [],h,_,_,_,_,_=>by cases h
 | z :: pre,h,h1,h2,h3,h4,h5=>by
  rcases List.mem_cons.1 h with rfl|h
  ·simp[dz,h1,h2,h3,h4,h5]
  ·have ih:=iI pre h h1 h2 h3 h4 h5
   simp only[dz]
   split
   ·split
    ·exact List.mem_cons_of_mem _ ih
    ·exact ih
   ·exact ih
theorem dh {R R':ai}{y:It}(h:∀d,y.o.d=some d→R' d=R d):ea R' y=ea R y:=by
 unfold ea
 split
 ·rename_i d z h1 h2;simp only[h1,h2,h d h1]
 ·rename_i d h1 h2;simp only[h1,h2,h d h1]
 ·rfl
theorem jq.lt {g:Ctx}{N:Nat}{R:ai}{H:aa}{y:It}(h:jq g N R H y){k:Nat}(hm:ea R y=some k):k<H.length:=by
 unfold ea at hm
 rcases h with⟨_,h2⟩|⟨_,d,b,h2,h3,h4⟩
 ·split at hm
  ·rename_i d z h1 _;rw[h2 d h1]at hm;cases hm
  ·rename_i d h1 _;rw[h2 d h1]at hm;cases hm
  ·cases hm
 ·rw[h2,h3]at hm
  rcases h4 with⟨hk,he⟩|⟨k',z,rfl,e1,e2,e3,e4⟩|⟨k',rfl,e1,e2,e3,e4⟩
  ·cases b<;>simp[gw]at hk hm
  ·simp only[e1,fc,Option.some.injEq]at hm;subst hm;exact(List.getElem?_eq_some_iff.1 e2).1
  ·simp only[e1,fc,Option.some.injEq]at hm;subst hm;exact(List.getElem?_eq_some_iff.1 e2).1
section
variable {P:Program} {n:Nat} {ops:Array Oper} {mu:Nat→Bool} {w0 w w' ws:World} {df:List Deferred} {mk:T} {g g' g0:Ctx} {H H0 H':aa} {pre:List It} {L:Array Bool} {R:ai} {a:Act} {r:Option Nat} {x:It} {o:Oper}
theorem Dr.fx (h:Dr P n ops mu w0 df mk g0 ws H0 pre L g R H a w)(hd:Hd P n ops mu pre x o):L.getD x.i false=false:=by
 cases e:L.getD x.i false with
 | false=>rfl
 | true=>obtain⟨y,hy,e⟩:=h.sub x.i e;exact absurd e (hd.ne y hy)
theorem al {α:Type}{y x:α}{l:List α}(h:y∈l++[x]):y∈l∨y=x:=by simpa using h
theorem Dr.take (h:Dr P n ops mu w0 df mk g0 ws H0 pre L g R H a w)(hd:Hd P n ops mu pre x o)(he:x.early=true){t:T}(hp:jq g H0.length (aA R x.o.d t) H' x)
  (hH:H'=H∨∃B,H'=H++[B]∧((∃cs,B=.cells cs)∨∃es,B=.map es)) (hm:∀k,ea (aA R x.o.d t) x=some k→H.length≤k):Dr P n ops mu w0 df mk g0 ws H0 (pre++[x]) L g (aA R x.o.d t) H' a w:=by
 have Ib:=h.fx hd
 have jJ:∀t:T,x.o.d≠some n:=fun _ e=>by
  obtain⟨op,gd,_,_,zl,_,Aj⟩:=ar hd.co
  have DP:x.o.d=o.dst:=by rw[zl]
  exact Nat.lt_irrefl n (Aj n (DP▸e))
 have p8:∀z∈pre,∀u∈z.ts,aA R x.o.d t u=R u:=fun z hz u hu=>aP fun e=>by
  obtain⟨h1,_⟩:=((hd.dst u e).1 z hz).2 hu
  rw[he]at h1;cases h1
 have rf:∀z∈pre,∀d,z.o.d=some d→aA R x.o.d t d=R d:=fun z hz d hN=>aP fun e=>((hd.dst d e).1 z hz).1 hN
 have EK:∃l,H'=H++l:=by
  rcases hH with rfl|⟨B,rfl,_⟩
  ·exact⟨[],by simp⟩
  ·exact⟨[B],rfl⟩
 obtain⟨l,hl⟩:=EK
 have DQ:∀z∈pre,L.getD z.i false=false→jq g H0.length (aA R x.o.d t) H' z:=fun z hz hu=>by
  obtain⟨oz,_,_,EL⟩:=h.cmp z hz
  obtain⟨t1,t2,_⟩:=cR EL
  refine(h.bz z hz hu).mono (fun u hu=>p8 z hz u (t1 u hu)) (fun u hu=>p8 z hz u (t2 u hu)) (rf z hz) (fun d b _ _ _ hk e=>?_) (fun k y _ hy _ hn _=>?_)
  ·subst hl;exact(eS hk e).2 l
  ·subst hl;exact⟨dX hy,hn⟩
 refine { nC:=h.nC,cmp:=?_,rd:=?_,dd:=?_,kl:=?_,uniq:=?_,jr:=?_,closed:=h.closed,sub:=fun i hi=>?_,iH:=?_,sr:=?_,le:=h.le,fr:=?_,kK:=h.kK,kL:=?_,bz:=?_,inj:=?_,wS:=h.wS,wT:=(by rw[aP (jJ t)];exact h.wT) }
 ·intro y hy
  replace hy:=al hy;rcases hy with hy|rfl
  ·exact h.cmp y hy
  ·exact⟨o,hd.ho,⟨_,hd.co⟩,hd.ts⟩
 ·intro y hy z hz A7 d hN zq
  replace hy:=al hy;rcases hy with hy|rfl
  ·replace hz:=al hz;rcases hz with hz|rfl
   ·exact h.rd y hy z hz A7 d hN zq
   ·obtain⟨h1,_⟩:=((hd.dst d hN).1 y hy).2 zq
    rw[he]at h1;cases h1
  ·replace hz:=al hz;rcases hz with hz|rfl
   ·exact hd.EJ z hz d hN zq
   ·exact absurd zq (hd.dst d hN).2
 ·intro y hy z hz d vI hN
  replace hy:=al hy;rcases hy with hy|rfl
  ·replace hz:=al hz;rcases hz with hz|rfl
   ·exact h.dd y hy z hz d vI hN
   ·exact absurd vI ((hd.dst d hN).1 y hy).1
  ·replace hz:=al hz;rcases hz with hz|rfl
   ·exact absurd hN ((hd.dst d vI).1 z hz).1
   ·rfl
 ·intro y hy oe o' fq
  replace hy:=al hy;rcases hy with hy|rfl
  ·exact h.kl y hy oe o' fq
  ·rw[hd.ho]at fq;cases fq;exact(hd.kl oe).2
 ·intro y hy z hz e
  replace hy:=al hy;rcases hy with hy|rfl
  ·replace hz:=al hz;rcases hz with hz|rfl
   ·exact h.uniq y hy z hz e
   ·exact absurd e (hd.ne y hy)
  ·replace hz:=al hz;rcases hz with hz|rfl
   ·exact absurd e.symm (hd.ne z hz)
   ·rfl
 ·intro y hy o' fq j hj
  replace hy:=al hy;rcases hy with hy|rfl
  ·exact h.jr y hy o' fq j hj
  ·rw[hd.ho]at fq;cases fq;exact(hd.pred j hj).1
 ·obtain⟨y,hy,e⟩:=h.sub i hi
  exact⟨y,by simp[hy],e⟩
 ·intro y hy oe
  replace hy:=al hy;rcases hy with hy|rfl
  ·exact h.iH y hy oe
  ·rw[he]at oe;cases oe
 ·rcases hH with rfl|⟨B,rfl,hB⟩
  ·exact h.sr
  ·exact h.sr.EE hB
 ·subst hl;exact h.fr.trans (Fr.ext g H l)
 ·intro u hu Ak
  rw[aP (Ak x (by simp) Ib)]
  exact h.kL u hu fun y hy js=>Ak y (by simp[hy]) js
 ·intro y hy js
  replace hy:=al hy;rcases hy with hy|rfl
  ·exact DQ y hy js
  ·exact hp
 ·intro y hy z hz js lF aF k hk nY
  replace hy:=al hy;rcases hy with hy|rfl
  ·rw[dh (rf y hy)]at hk
   replace hz:=al hz;rcases hz with hz|rfl
   ·rw[dh (rf z hz)]at nY
    exact h.inj y hy z hz js lF aF k hk nY
   ·have h1:=(h.bz y hy js).lt hk
    have h2:=hm k nY
    omega
  ·replace hz:=al hz;rcases hz with hz|rfl
   ·rw[dh (rf z hz)]at nY
    have h1:=(h.bz z hz lF).lt nY
    have h2:=hm k hk
    omega
   ·exact aF rfl
theorem Dr.both (h:Dr P n ops mu w0 df mk g0 ws H0 pre L g R H a w)(hd:Hd P n ops mu pre x o)(he:x.early=false)(hp:∀j∈aU o,L.getD j false=true){t:T}{v:Value}(le:Le g w g' w')(sr:SR w0 g' H' w')(hv:VR g' w' t v)(fr:Fr g H g' H')
  (hs:∀y∈pre,L.getD y.i false=false→∀d b,av R y.o.g=true→y.o.d=some d→y.o.op=.b b→gw b=.read→ae R H b=some (R d,H)→ae R H' b=some (R d,H')) :
  Dr P n ops mu w0 df mk g0 ws H0 (pre++[x]) (L.setIfInBounds x.i true) g' (aA R x.o.d t) H' (a.put x.o.d v) w':=by
 have gm:x.i<L.size:=by rw[h.nC];exact(Array.getElem?_eq_some_iff.1 hd.ho).1
 have DF:∀j∈aU o,j<x.i∧L.getD j false=true:=fun j hj=>⟨(hd.pred j hj).1,hp j hj⟩
 obtain⟨op,gd,Ai,G3,zl,EG,Aj⟩:=ar hd.co
 have DP:x.o.d=o.dst:=by rw[zl]
 have EH:∀e,x.o.d=some e→e<a.tmps.size:=fun e h1=>by rw[h.kK];exact Aj e (DP▸h1)
 have p8:∀z∈pre,L.getD z.i false=false→∀u∈z.ts,aA R x.o.d t u=R u:=fun z hz hu u Ic=>aP fun e=>by
  obtain⟨_,h2⟩:=((hd.dst u e).1 z hz).2 Ic
  rw[h.bit hd.ho DF h2]at hu;cases hu
 have rf:∀z∈pre,∀d,z.o.d=some d→aA R x.o.d t d=R d:=fun z hz d hN=>aP fun e=>((hd.dst d e).1 z hz).1 hN
 refine { nC:=(by simp[h.nC]),cmp:=?_,rd:=?_,dd:=?_,kl:=?_,uniq:=?_,jr:=?_,closed:=?_,sub:=?_,iH:=?_,sr:=sr,le:=h.le.trans le,fr:=h.fr.trans fr,kK:=(by rw[iG];exact h.kK),kL:=?_,bz:=?_,inj:=?_,wS:=(by rw[dc];exact h.wS),wT:=(by rw[aP (fun e=>Nat.lt_irrefl n (Aj n (DP▸e)))];exact h.wT) }
 ·intro y hy
  replace hy:=al hy;rcases hy with hy|rfl
  ·exact h.cmp y hy
  ·exact⟨o,hd.ho,⟨_,hd.co⟩,hd.ts⟩
 ·intro y hy z hz A7 d hN zq
  replace hz:=al hz;rcases hz with hz|rfl
  ·replace hy:=al hy;rcases hy with hy|rfl
   ·exact h.rd y hy z hz A7 d hN zq
   ·exact hd.EJ z hz d hN zq
  ·rw[he]at A7;cases A7
 ·intro y hy z hz d vI hN
  replace hy:=al hy;rcases hy with hy|rfl
  ·replace hz:=al hz;rcases hz with hz|rfl
   ·exact h.dd y hy z hz d vI hN
   ·exact absurd vI ((hd.dst d hN).1 y hy).1
  ·replace hz:=al hz;rcases hz with hz|rfl
   ·exact absurd hN ((hd.dst d vI).1 z hz).1
   ·rfl
 ·intro y hy oe o' fq
  replace hy:=al hy;rcases hy with hy|rfl
  ·exact h.kl y hy oe o' fq
  ·rw[he]at oe;cases oe
 ·intro y hy z hz e
  replace hy:=al hy;rcases hy with hy|rfl
  ·replace hz:=al hz;rcases hz with hz|rfl
   ·exact h.uniq y hy z hz e
   ·exact absurd e (hd.ne y hy)
  ·replace hz:=al hz;rcases hz with hz|rfl
   ·exact absurd e.symm (hd.ne z hz)
   ·rfl
 ·intro y hy o' fq j hj
  replace hy:=al hy;rcases hy with hy|rfl
  ·exact h.jr y hy o' fq j hj
  ·rw[hd.ho]at fq;cases fq;exact(hd.pred j hj).1
 ·intro i oi zm nD j hj
  rw[bq gm]at nD ⊢
  by_cases e:x.i=i
  ·subst e
   rw[hd.ho]at zm;cases zm
   obtain⟨h1,h2⟩:=DF j hj
   exact⟨h1,by split<;>simp[h2]⟩
  ·rw[if_neg e]at nD
   obtain⟨h1,h2⟩:=h.closed i oi zm nD j hj
   exact⟨h1,by split<;>simp[h2]⟩
 ·intro i nD
  rw[bq gm]at nD
  by_cases e:x.i=i
  ·exact⟨x,by simp,e⟩
  ·rw[if_neg e]at nD
   obtain⟨y,hy,e⟩:=h.sub i nD
   exact⟨y,by simp[hy],e⟩
 ·intro y hy oe
  rw[bq gm]
  split
  ·rfl
  ·rename_i aF
   replace hy:=al hy;rcases hy with hy|rfl
   ·exact h.iH y hy oe
   ·exact absurd rfl aF
 ·intro u hu Ak
  rw[iE _ _ _ _ EH]
  split
  ·rename_i e;rw[e,du];exact hv
  ·rename_i e
   rw[aP e]
   exact(h.kL u hu fun y hy js=>Ak y (by simp[hy]) (by rw[bq gm,if_neg (Ne.symm (hd.ne y hy))];exact js)).mono le
 ·intro y hy js
  rw[bq gm]at js
  split at js
  ·cases js
  ·rename_i aF
   replace hy:=al hy;rcases hy with hy|rfl
   ·obtain⟨oz,_,_,EL⟩:=h.cmp y hy
    obtain⟨t1,t2,_⟩:=cR EL
    exact(h.bz y hy js).mono (fun u hu=>p8 y hy js u (t1 u hu)) (fun u hu=>p8 y hy js u (t2 u hu)) (rf y hy) (hs y hy js) (fun k z _ hz vH hn _=>fr.2 k z hz vH hn)
   ·exact absurd rfl aF
 ·intro y hy z hz js lF aF k hk nY
  rw[bq gm]at js lF
  split at js
  ·cases js
  ·split at lF
   ·cases lF
   ·rename_i Ie Eu
    replace hy:=al hy;rcases hy with hy|rfl
    ·replace hz:=al hz;rcases hz with hz|rfl
     ·rw[dh (rf y hy)]at hk
      rw[dh (rf z hz)]at nY
      exact h.inj y hy z hz js lF aF k hk nY
     ·exact absurd rfl Eu
    ·exact absurd rfl Ie
theorem Dr.init (sr:SR w0 g H w)(hn:a.tmps.size=n)(kY:R n=mk)(hr:∀t,t<n→VR g w (R t) (a.tmps.getD t undef))(le:Le g0 ws g w)(fr:Fr g0 H0 g H):Dr P n ops mu w0 a.defers mk g0 ws H0 [] (Array.replicate ops.size false) g R H a w:=by
 have hf:∀i,(Array.replicate ops.size false).getD i false=false:=fun i=>by
  rw[Array.getD_eq_getD_getElem?,Array.getElem?_replicate];split<;>rfl
 refine { nC:=by simp,cmp:=(by simp),rd:=(by simp),dd:=(by simp),kl:=(by simp),uniq:=(by simp),jr:=(by simp),closed:=fun i o _ h=>?_,sub:=fun i h=>?_,iH:=(by simp),sr:=sr,le:=le,fr:=fr,kK:=hn,kL:=fun t ht _=>hr t ht,bz:=(by simp),inj:=(by simp),wS:=rfl,wT:=kY }
 ·rw[hf]at h;cases h
 ·rw[hf]at h;cases h
end
section
variable {P:Program} {w0 w:World} {g:Ctx} {H H':aa} {R:ai} {a:Act} {n:Nat} {ops:Array Oper}
def dI:Bo→Bool
 | .eX _ _ _ _=>true
 | _=>false
theorem cJ {b:Bo}(h:dI b=false){neg:Bool}{c:ue}{x y:X}:b≠.eX neg c x y:=by rintro rfl;cases h
theorem rh {ty:TypeId}{x:X}{b:Bo}(h:jK P ty x=some b):dI b=false:=by
 unfold jK at h;(repeat' split at h)<;>cases h<;>rfl
theorem jR {ty:TypeId}{x:X}{f:Nat}{ad:Bool}{b:Bo}(h:fu P ty x f ad=some b):dI b=false:=by
 unfold fu at h;(repeat' split at h)<;>cases h<;>rfl
theorem og {ty:TypeId}{x i:X}{ad:Bool}{b:Bo}(h:nq P ty x i ad=some b):dI b=false:=by
 unfold nq at h;(repeat' split at h)<;>first|(cases h<;>rfl)|(simp only[Option.map_eq_some_iff]at h;obtain⟨_,_,h⟩:=h;cases h;rfl)
theorem pH {ty:TypeId}{x:X}{lo hi mx:Option X}{b:Bo}(h:gn P ty x lo hi mx=some b):dI b=false:=by
 unfold gn at h;(repeat' split at h)<;>cases h<;>rfl
theorem vJ {ty:TypeId}{x:X}{lo hi mx:Option X}{b:Bo}(h:pt P ty x lo hi mx=some b):dI b=false:=by
 unfold pt at h
 split at h
 ·simp only[Option.map_eq_some_iff]at h;obtain⟨_,_,h⟩:=h;cases h;rfl
 ·cases h
theorem rl {src dst:TypeId}{x:X}{b:Bo}(h:jL P src dst x=some b):dI b=false:=by
 unfold jL at h;(repeat' split at h)<;>cases h<;>rfl
theorem nE {mu:Bool}{dt:List TypeId}{aq:List X}{b:Bo}(h:eP P mu dt aq=some b):dI b=false:=by
 unfold eP at h;(repeat' split at h)<;>cases h<;>rfl
theorem vK {dt:List TypeId}{aq:List X}{b:Bo}(h:lH P dt aq=some b):dI b=false:=by
 unfold lH at h;(repeat' split at h)<;>cases h<;>rfl
theorem lU {mu:Bool}{bt:Builtin}{dt:List TypeId}{aq:List X}{b:Bo}(h:dF P mu bt dt aq=some b):dI b=false:=by
 unfold dF at h
 split at h
 ·split at h
  ·rename_i b' hz;cases h;exact vK hz
  ·exact nE h
 all_goals (repeat' split at h)<;>first|(cases h<;>rfl)|(simp only[Option.map_eq_some_iff]at h;obtain⟨_,_,h⟩:=h;cases h;rfl)
theorem pI {ty:TypeId}{ps:List (Nat×X)}{b:Bo}(h:gp P ty ps=some b):dI b=false:=by
 unfold gp at h;(repeat' split at h)<;>cases h<;>rfl
theorem vL {mu:Bool}{ty:TypeId}{n:Nat}{ps:List (Nat×X)}{b:Bo}(h:pw P mu ty n ps=some b):dI b=false:=by
 cases mu<;>unfold pw at h<;>(repeat' split at h)<;>cases h<;>rfl
theorem vM {mu:Bool}{ty:TypeId}{l c:X}{b:Bo}(h:px P mu ty l c=some b):dI b=false:=by
 unfold px at h;(repeat' split at h)<;>cases h<;>rfl
theorem nF {mu:Bool}{op:Op}{neg:Bool}{x y:X}(h:aB P mu op=some (.eX neg .slice x y)) :
  ∃Al ty ox oy yt e,op=.binOp Al ty ox oy yt∧aj ox=some x∧aj oy=some y∧P.underlying ty=some (.slice e)∧Al=(if neg then .neq else .eql):=by
 cases op<;>simp only[aB,Option.map_eq_some_iff,Option.bind_eq_some_iff]at h
 case binOp Al ty ox oy yt =>
  cases h1:aj ox with
  | none=>simp[h1]at h
  | some x'=>cases h2:aj oy with
   | none=>simp[h1,h2]at h
   | some y' =>
    simp only[h1,h2]at h
    unfold qO at h
    split at h
    ·cases h
    ·cases h
    ·simp only[Option.map_eq_some_iff]at h;obtain⟨_,_,h⟩:=h;cases h
    ·split at h
     ·split at h<;>cases h
     ·cases h
    ·rename_i d _ _ _ _ hu
     split at h
     ·rename_i n' c hn hC
      cases h
      refine⟨Al,ty,ox,oy,yt,?_⟩
      cases d<;>simp[cls]at hC
      exact⟨_,rfl,h1,h2,hu,by cases Al<;>simp[isEq]at hn<;>subst hn<;>rfl⟩
     ·cases h
    ·cases h
 case load=>obtain⟨_,_,h⟩:=h;exact absurd rfl (cJ (rh h))
 case fieldAddr=>obtain⟨_,_,h⟩:=h;exact absurd rfl (cJ (jR h))
 case field=>obtain⟨_,_,h⟩:=h;exact absurd rfl (cJ (jR h))
 case indexAddr=>split at h;exact absurd rfl (cJ (og h));cases h
 case index=>split at h;exact absurd rfl (cJ (og h));cases h
 case slice =>
  split at h
  ·split at h
   ·exact absurd rfl (cJ (vJ h))
   ·exact absurd rfl (cJ (pH h))
  ·cases h
 case convert=>obtain⟨_,_,h⟩:=h;exact absurd rfl (cJ (rl h))
 case build=>obtain⟨_,_,h⟩:=h;exact absurd rfl (cJ (pI h))
 case buildSlice=>obtain⟨_,_,h⟩:=h;exact absurd rfl (cJ (vL h))
 case makeSlice=>split at h;exact absurd rfl (cJ (vM h));cases h
 case call c =>
  obtain⟨callee,args,dt⟩:=c
  cases callee
  case builtin=>simp only[aB,Option.bind_eq_some_iff]at h;obtain⟨_,_,h⟩:=h;exact absurd rfl (cJ (lU h))
  case value cv =>
   cases cv<;>simp only[aB]at h<;>(try (cases h;done))
   split at h<;>cases h
  all_goals simp[aB]at h
 case makeMap t r=>cases r<;>simp[aB]at h
 case next it str=>cases str<;>simp[aB]at h
 case range ty m=>split at h;(simp only[Option.map_eq_some_iff]at h;obtain⟨_,_,h⟩:=h;cases h);cases h
 case makeFunc f first ew =>
  cases f<;>simp only[aB]at h
  case func f =>
   split at h
   ·simp only[Option.map_eq_some_iff]at h;obtain⟨_,_,h⟩:=h;cases h
   ·cases h
  all_goals cases h
 all_goals first
  | (cases h;done)
  | (obtain⟨_,_,h⟩:=h;cases h;done)
  | ((repeat' split at h)<;>first|(cases h;done)|(simp only[Option.map_eq_some_iff]at h;obtain⟨_,_,h⟩:=h;cases h;done))
  | (simp only[Option.map_eq_some_iff]at h;obtain⟨_,_,h⟩:=h;cases h)
  | skip
theorem pJ {ty e:TypeId}{ox oy:Operand}{ad:Option Addr}{l p:Nat}{neg:Bool}(hu:P.underlying ty=some (.slice e)) :
  (do eqGuard (if neg then .neq else .eql) ty ox oy (.slice ad l p) (.slice none 0 0);binOp (if neg then .neq else .eql) ty (.slice ad l p) (.slice none 0 0)).run P w=.ok (.bool (if neg then !ad.isNone else ad.isNone)) w:=by
 have k1:∀op,(eqGuard op ty ox oy (.slice ad l p) (.slice none 0 0)).run P w=.ok () w:=fun op=>lx
 have k2:(Op.equal ty (.slice ad l p) (.slice none 0 0)).run P w=.ok ad.isNone w:=cy fun n=>by
  rw[Op.equalIn];simp only[Sem.run_bind,run_underlying hu,Result.andThen_ok]
  cases ad<;>simp_all
 have k3:∀neg:Bool,(binOp (if neg then .neq else .eql) ty (.slice ad l p) (.slice none 0 0)).run P w=((Op.equal ty (.slice ad l p) (.slice none 0 0)).run P w).andThen fun b w'=>.ok (.bool (if neg then !b else b)) w':=fun neg=>by cases neg<;>simp[binOp]
 simp only[Sem.run_bind,k1,Result.andThen_ok,k3,k2]
theorem pK {r:Option Nat}{mu:Bool}{o:Oper}{neg:Bool}{x y:X}(hc:bd P mu o.op=some (.b (.eX neg .slice x y)))(hr:cB g w R a (bQ o.op.operands.toList))
  (hx:x.ev R=.sl .arg []) (hy:y.ev R=.sl .nil []):∃b:Bool,∀(K:Act→World→Prop) (Q:Exit→Act→World→Prop),K (a.put o.dst (.bool b)) w→o.wpIn (Fw r) 0 P a w K Q:=by
 have jJ:=cU hc
 obtain⟨Al,ty,ox,oy,yt,e,ho,h1,h2,hu,rfl⟩:=nF (dG hc)
 have G6:=jQ hr
 have v1:=G6 ox (by rw[ho];simp[Op.operands]) x h1
 have v2:=G6 oy (by rw[ho];simp[Op.operands]) y h2
 rw[hx]at v1
 rw[hy]at v2
 generalize h3:a.eval ox=vx at v1
 generalize h4:a.eval oy=vy at v2
 have e2:vy=.slice none 0 0:=by
  cases v2 with
  | slnil=>rfl
  | sl a7 hk=>exact hk.elim
 subst e2
 obtain⟨ad,l,p,rfl⟩:∃ad l p,vx=.slice ad l p:=by cases v1<;>exact⟨_,_,_,rfl⟩
 refine⟨if neg then !ad.isNone else ad.isNone,fun K Q hk=>⟨fun _ _=>trivial,?_⟩⟩
 rw[Oper.semAt_eq _ _ _ jJ]
 have aJ:(execOp a.eval o).run P w=.ok (.value (.bool (if neg then !ad.isNone else ad.isNone))) w:=by
  have:=pJ (P:=P) (w:=w) (ox:=ox) (oy:=oy) (ad:=ad) (l:=l) (p:=p) (neg:=neg) hu
  simp only[execOp,ho,h3,h4]
  rw[Sem.run_bind,this]
  rfl
 rw[aJ]
 exact hk
end
def di (g:Ctx)(w:World)(n:Nat)(R:ai)(a:Act):Prop:=a.tmps.size=n∧∀t,t<n→VR g w (R t) (a.tmps.getD t undef)
def jt:Exit→Option Ex
 | .normal=>some .normal
 | .exit id=>some (.exit id)
 | .ret=>some .ret
 | _=>none
def nG (w0:World)(n:Nat)(df:List Deferred)(mk:T)(g:Ctx)(w:World)(H:aa)(Q:Out→aa→Prop):Exit→Act→World→Prop:=fun e a' w' =>
 ∃ex R' g' H',jt e=some ex∧Q (.ex ex R') H'∧Le g w g' w'∧SR w0 g' H' w'∧di g' w' n R' a'∧Fr g H g' H'∧a'.defers=df∧R' n=mk
def iJ (w0:World)(g:Ctx)(w:World)(H:aa)(Q:T→aa→Prop):Ending→World→Prop:=fun e w' =>
 ∃v t g' H',e=.returned v∧Q t H'∧Le g w g' w'∧SR w0 g' H' w'∧VR g' w' t v∧Fr g H g' H'
structure oh (P:Program)(E:Env)(w0:World):Prop where
 mixed:P.follows .mixedOrders=true
 fn:∀f fn,E.fn f=some fn→∃an,af P an f=some fn
 fY:∀f aq H Q,E.fY f aq H Q→∀g w args,SR w0 g H w→ay g w aq args→bc P f=true∧CallsIn (Fw none) 0 P f args.toArray w (iJ w0 g w H Q)
inductive lV (g:Ctx):List T→List Deferred→Prop
 | nil:lV g [] []
 | cons {b r o q ts df} (h:g.φ b=some (r,o,q)) (hs:lV g ts df):lV g (.ptr b 0 :: ts) ({ target:=.collected r,args:=#[] } :: df)
theorem lV.mono {g g':Ctx}{w w':World}(le:Le g w g' w'){ts:List T}{df:List Deferred}(h:lV g ts df):lV g' ts df:=by
 induction h with
 | nil=>exact .nil
 | cons h _ ih=>exact .cons (le.φ _ _ h) ih
def Mk (g:Ctx)(t:T)(df:List Deferred):Prop:=∃ts,t=.bo ts∧lV g ts df
theorem Mk.mono {g g':Ctx}{w w':World}(le:Le g w g' w'){t:T}{df:List Deferred}(h:Mk g t df):Mk g' t df:=let ⟨ts,e,h⟩:=h;⟨ts,e,h.mono le⟩
def eI (w0:World)(n:Nat)(hr:Bool)(df:List Deferred)(mk:T)(g:Ctx)(w:World)(H:aa)(Q:Out→aa→Prop):Exit→Act→World→Prop:=fun e a' w' =>
 ∃ex R' g' H',jt e=some ex∧Q (.ex ex R') H'∧Le g w g' w'∧SR w0 g' H' w'∧di g' w' n R' a'∧Fr g H g' H'∧(Mk g mk df→Mk g' (R' n) a'.defers)∧(hr=false→R' n=mk∧a'.defers=df)
def b8 (P:Program)(g:Ctx):Prop:=∀n c k,g.ck n c k↔∃an,ax P n an false k=some c
theorem b8.mono {P:Program}{g g':Ctx}{w w':World}(le:Le g w g' w')(h:b8 P g):b8 P g':=fun n c k=>by rw[le.ck];exact h n c k
def iK (F:Fence)(n:Nat)(P:Program)(c:Code)(Q:Exit→Act→World→Prop)(a:Act)(w:World):Prop :=
 ∀(b:Frame) (k:List Item) (cs:List Frame),b.roundOf=F.round→F.fn b.fn→F.room (cs.length+1+n) →
  ∃e a' w',Q e a' w'∧ArrivesIn (Machine.fenced P F) P (lone (b.atR a (.code c :: .inLoop c :: k)) cs w) b k cs e a' w'
theorem lW {F:Fence}{n:Nat}{P:Program}{c:Code}{Q:Exit→Act→World→Prop}{a:Act}{w:World}(h:c.wpIn F n P (Exit.then (iK F n P c Q) Q) a w):iK F n P c Q a w:=by
 intro b k cs DR hb hr
 obtain⟨e,a₁,w₁,hq,fM⟩:=h b (.inLoop c :: k) cs DR hb hr
 cases e with
 | normal =>
  obtain⟨e₂,a₂,w₂,Ig,A8⟩:=hq b k cs DR hb hr
  exact⟨e₂,a₂,w₂,Ig,.of_steps (StepsIn.trans fM (.one (fenced_calm hb hr rfl) stepR_inLoop)) A8⟩
 | exit id=>exact⟨_,a₁,w₁,hq,.pass (x:=.inLoop c) rfl (fun _ _=>.inl (by simp)) fM⟩
 | goto l=>exact⟨_,a₁,w₁,hq,.pass (x:=.inLoop c) rfl (fun _ _=>.inl (by simp)) fM⟩
 | ret=>exact⟨_,a₁,w₁,hq,.pass (x:=.inLoop c) rfl (fun _ _=>.inl (by simp)) fM⟩
 | panic ch=>exact⟨_,a₁,w₁,hq,.pass (x:=.inLoop c) rfl (fun _ _=>.inl (by simp)) fM⟩
 | outgrown=>exact⟨_,a₁,w₁,hq,.pass (x:=.inLoop c) rfl (fun _ _=>.inl (by simp)) fM⟩
theorem pL {F:Fence}{n:Nat}{P:Program}{c:Code}{Q:Exit→Act→World→Prop}{a:Act}{w:World}(h:iK F n P c Q a w):(Code.loop c).wpIn F n P Q a w :=
 fun b k cs DR hb hr=>let ⟨e,a',w',hq,fM⟩:=h b k cs DR hb hr;⟨e,a',w',hq,.of_steps (.one (fenced_calm hb hr rfl) stepR_loop) fM⟩
section
variable {P:Program} {w0 w ws:World} {g g0:Ctx} {H H0 H':aa} {R:ai} {a:Act} {n:Nat} {ops:Array Oper} {r:Option Nat} {mu:Bool} {i:Nat} {o:Oper} {st jf:List Rd}
theorem fR {y:O}(hc:bX P n ops mu o st=some y):∀t∈tmpsOf o y.op y.g,t<n:=by
 obtain⟨op,gd,_,_,rfl,h,_⟩:=ar hc;exact h
theorem oj {d:Option Nat}{op:tT}{gd:Gd}(ho:ops[i]?=some o)(hc:bX P n ops mu o st=some ⟨d,op,gd,jf⟩)(hn:a.tmps.size=n)(hr:cB g w R a (tmpsOf o op gd))(hw:av R gd=false)
  {K:Act→World→Prop} {Q:Exit→Act→World→Prop} (hk:K (a.put d undef) w):wpOpIn (Fw r) 0 P ops Q i K a w:=by
 obtain⟨zr,zt,h1,h2,h3,h4,h5⟩:=ar hc
 cases h3
 unfold wpOpIn
 simp only[ho,gx h2 hn (fun t ht=>h4 t (by simp[tmpsOf,ht])) (hr.sub fun t ht=>by simp[tmpsOf,ht]),hw]
 exact⟨fun _ _=>trivial,hk⟩
theorem cV {d:Option Nat}{op:tT}{gd:Gd}(ho:ops[i]?=some o)(hc:bX P n ops mu o st=some ⟨d,op,gd,jf⟩)(hn:a.tmps.size=n)(hr:cB g w R a (tmpsOf o op gd))(hw:av R gd=true)
  {K:Act→World→Prop} {Q:Exit→Act→World→Prop} (hk:o.wpIn (Fw r) 0 P a w K Q):wpOpIn (Fw r) 0 P ops Q i K a w:=by
 obtain⟨zr,zt,h1,h2,h3,h4,h5⟩:=ar hc
 cases h3
 unfold wpOpIn
 simp only[ho,gx h2 hn (fun t ht=>h4 t (by simp[tmpsOf,ht])) (hr.sub fun t ht=>by simp[tmpsOf,ht]),hw,if_true]
 exact hk
theorem eU {op:tT}{gd:Gd}(hr:cB g w R a (tmpsOf o op gd)):cB g w R a (bQ o.op.operands.toList):=hr.sub fun t ht=>by simp[tmpsOf,ht]
theorem kM {d:Option Nat}{b:Bo}{gd:Gd}{t:T}(ho:ops[i]?=some o)(hc:bX P n ops mu o st=some ⟨d,.b b,gd,jf⟩)(hn:a.tmps.size=n)(hr:cB g w R a (tmpsOf o (.b b) gd))(hw:av R gd=true)
  (h:SR w0 g H w) (he:ae R H b=some (t,H')) :
  ∃v w' g',(∀(K:Act→World→Prop) (Q:Exit→Act→World→Prop),K (a.put d v) w'→wpOpIn (Fw r) 0 P ops Q i K a w)∧Le g w g' w'∧SR w0 g' H' w'∧VR g' w' t v∧Fr g H g' H':=by
 obtain⟨zr,zt,h1,h2,h3,h4,h5⟩:=ar hc
 cases h3
 obtain⟨v,w',g',hs,rest⟩:=qX (r:=r) h1 h (eU hr) he
 exact⟨v,w',g',fun K Q hk=>cV ho hc hn hr hw (hs K Q hk),rest⟩
theorem lX {d:Option Nat}{x:X}{gd:Gd}{b bi:Nat}{es:List (T×T)}{ix:List Nat}{cur:Option Nat}(ho:ops[i]?=some o)(hc:bX P n ops mu o st=some ⟨d,.b (.hU x),gd,jf⟩)(hn:a.tmps.size=n)(hr:cB g w R a (tmpsOf o (.b (.hU x)) gd))(hw:av R gd=true)
  (h:SR w0 g H w) (hx:x.ev R=.ptr bi 0) (hb:H[b]?=some (.ct es ix bi cur)) :
  ∃t H' v w' g',fE H b bi es ix t H'∧(∀(K:Act→World→Prop) (Q:Exit→Act→World→Prop),K (a.put d v) w'→wpOpIn (Fw r) 0 P ops Q i K a w)∧Le g w g' w'∧SR w0 g' H' w'∧VR g' w' t v∧Fr g H g' H':=by
 obtain⟨zr,zt,h1,h2,h3,h4,h5⟩:=ar hc
 cases h3
 obtain⟨t,H',v,w',g',vH,hs,rest⟩:=qY (r:=r) h1 h (eU hr) hx hb
 exact⟨t,H',v,w',g',vH,fun K Q hk=>cV ho hc hn hr hw (hs K Q hk),rest⟩
theorem jS {d:Option Nat}{neg:Bool}{x y:X}{gd:Gd}(ho:ops[i]?=some o)(hc:bX P n ops mu o st=some ⟨d,.b (.eX neg .slice x y),gd,jf⟩)(hn:a.tmps.size=n)(hr:cB g w R a (tmpsOf o (.b (.eX neg .slice x y)) gd))(hw:av R gd=true)
  (hx:x.ev R=.sl .arg []) (hy:y.ev R=.sl .nil []):∃b:Bool,∀(K:Act→World→Prop) (Q:Exit→Act→World→Prop),K (a.put d (.bool b)) w→wpOpIn (Fw r) 0 P ops Q i K a w:=by
 obtain⟨zr,zt,h1,h2,h3,h4,h5⟩:=ar hc
 cases h3
 obtain⟨b,hs⟩:=pK (r:=r) h1 (eU hr) hx hy
 exact⟨b,fun K Q hk=>cV ho hc hn hr hw (hs K Q hk)⟩
theorem jT {d:Option Nat}{f:Nat}{aq:List X}{gd:Gd}{M:T→aa→Prop}(ho:ops[i]?=some o)(hc:bX P n ops mu o st=some ⟨d,.call f aq,gd,jf⟩)(hn:a.tmps.size=n)(hr:cB g w R a (tmpsOf o (.call f aq) gd))(hw:av R gd=true)
  (ih:∀args,ay g w (aq.map (X.ev R)) args→bc P f=true∧CallsIn (Fw none) 0 P f args.toArray w (iJ w0 g w H M)) {K:Act→World→Prop} {Q:Exit→Act→World→Prop}
  (hk:∀v w' g' H' t,M t H'→Le g w g' w'→SR w0 g' H' w'→VR g' w' t v→Fr g H g' H'→K (a.put d v) w'):wpOpIn (Fw r) 0 P ops Q i K a w:=by
 obtain⟨zr,zt,h1,h2,h3,h4,h5⟩:=ar hc
 cases h3
 obtain⟨args,hv,hs⟩:=pE (r:=r) h1 (eU hr)
 obtain⟨k1,k2⟩:=ih args hv
 exact cV ho hc hn hr hw (hs K Q k1 (k2.mono fun e w' ⟨v,t,g',H',he,hM,le,sr,bS,fr⟩=>⟨v,he,hk v w' g' H' t hM le sr bS fr⟩))
theorem iL {d:Option Nat}{x:X}{f:Nat}{cs:List T}{aq:List X}{gd:Gd}{M:T→aa→Prop}(ho:ops[i]?=some o)(hc:bX P n ops mu o st=some ⟨d,.bl x aq,gd,jf⟩)(hn:a.tmps.size=n)(hr:cB g w R a (tmpsOf o (.bl x aq) gd))(hw:av R gd=true)
  (hx:x.ev R=.fn f cs) (ih:∀args,ay g w (aq.map (X.ev R)++cs) args→bc P f=true∧CallsIn (Fw none) 0 P f args.toArray w (iJ w0 g w H M)) {K:Act→World→Prop} {Q:Exit→Act→World→Prop}
  (hk:∀v w' g' H' t,M t H'→Le g w g' w'→SR w0 g' H' w'→VR g' w' t v→Fr g H g' H'→K (a.put d v) w'):wpOpIn (Fw r) 0 P ops Q i K a w:=by
 obtain⟨zr,zt,h1,h2,h3,h4,h5⟩:=ar hc
 cases h3
 obtain⟨args,hv,hs⟩:=nB (r:=r) h1 (eU hr) hx
 obtain⟨k1,k2⟩:=ih args hv
 exact cV ho hc hn hr hw (hs K Q k1 (k2.mono fun e w' ⟨v,t,g',H',he,hM,le,sr,bS,fr⟩=>⟨v,he,hk v w' g' H' t hM le sr bS fr⟩))
theorem di.put {d:Option Nat}{v:Value}{t:T}{w':World}{g':Ctx}(h:di g w n R a)(hd:∀e,d=some e→e<n)(le:Le g w g' w')(hv:VR g' w' t v):di g' w' n (aA R d t) (a.put d v):=by
 refine⟨by rw[iG];exact h.1,fun u hu=>?_⟩
 rw[iE _ _ _ _ (by rw[h.1];exact hd)]
 split
 ·rename_i e;rw[e,du];exact hv
 ·rename_i e;rw[aP e];exact(h.2 u hu).mono le
theorem di.rg (h:di g w n R a){ts:List Nat}(ht:∀t∈ts,t<n):cB g w R a ts:=fun t hm=>h.2 t (ht t hm)
end
section
variable {P:Program} {n:Nat} {ops:Array Oper} {mu:Nat→Bool} {w0 ws:World} {df:List Deferred} {mk:T} {g0:Ctx} {H0:aa} {pre:List It} {r:Option Nat} {x:It} {o:Oper} {Q:Out→aa→Prop}
def left (L:Array Bool):Nat:=L.toList.count false
theorem iM {L:Array Bool}{i:Nat}(hi:i<L.size)(hf:L.getD i false=false):left (L.setIfInBounds i true)+1=left L:=by
 unfold left
 rw[Array.toList_setIfInBounds,List.count_set (by simpa using hi)]
 have hg:L.toList[i]'(by simpa using hi)=false:=by
  rw[Array.getD_eq_getD_getElem?,Array.getElem?_eq_getElem hi,Option.getD_some]at hf
  simpa using hf
 have zd:0<L.toList.count false:=List.count_pos_iff.2 (hg▸List.getElem_mem _)
 rw[hg]
 have e1:((false==false:Bool)=true):=rfl
 have e2:¬((true==false:Bool)=true):=by decide
 rw[if_pos e1,if_neg e2]
 omega
theorem jU {L:Array Bool}(h:left L=0){i:Nat}(hi:i<L.size):L.getD i false=true:=by
 cases e:L.getD i false with
 | true=>rfl
 | false=>have:=iM hi e;omega
theorem jV {L:Array Bool}(b6:L.size=ops.size)(zi:∀i o,ops[i]?=some o→∀j∈aU o,j<i)(h:Region.ready .any ops L=[]):∀i,i<ops.size→L.getD i false=true:=by
 intro i
 induction i using Nat.strongRecOn with
 | _ i ih =>
  intro hi
  cases e:L.getD i false with
  | true=>rfl
  | false =>
   have:i∈Region.ready .any ops L:=by
    rw[mem_ready]
    refine⟨?_,ops[i],Array.getElem?_eq_getElem hi,fun ed he hb=>?_⟩
    ·have fW:i<L.size:=by omega
     rw[Array.getD_eq_getD_getElem?,Array.getElem?_eq_getElem fW]at e ⊢;exact e
    ·have hj:ed.on∈aU ops[i]:=by simp only[aU,List.mem_map,List.mem_filter];exact⟨ed,⟨by simpa using he,hb⟩,rfl⟩
     have:=zi i _ (Array.getElem?_eq_getElem hi) _ hj
     exact ih _ this (by omega)
   rw[h]at this;cases this
theorem pM {R:ai}{H:aa}(ey:∀i,i<ops.size→∃y∈pre,y.i=i)(hQ:Q (.ex .normal R) H):∀(fuel:Nat) (L:Array Bool) (g:Ctx) (a:Act) (w:World),left L≤fuel→Dr P n ops mu w0 df mk g0 ws H0 pre L g R H a w →
  wpAnyIn (Fw r) 0 P .any ops (nG w0 n df mk g0 ws H0 Q) fuel L a w:=by
 have fin:∀(L:Array Bool) (g:Ctx) (a:Act) (w:World),Dr P n ops mu w0 df mk g0 ws H0 pre L g R H a w→(∀i,i<ops.size→L.getD i false=true)→nG w0 n df mk g0 ws H0 Q .normal a w:=by
  intro L g a w h hl
  refine⟨.normal,R,g,H,rfl,hQ,h.le,h.sr,⟨h.kK,fun t ht=>h.kL t ht fun y hy hu=>?_⟩,h.fr,h.wS,h.wT⟩
  obtain⟨o,ho,_⟩:=h.cmp y hy
  rw[hl y.i (Array.getElem?_eq_some_iff.1 ho).1]at hu;cases hu
 have zi:∀(L:Array Bool) (g:Ctx) (a:Act) (w:World),Dr P n ops mu w0 df mk g0 ws H0 pre L g R H a w→∀i o,ops[i]?=some o→∀j∈aU o,j<i:=by
  intro L g a w h i o ho
  obtain⟨y,hy,rfl⟩:=ey i (Array.getElem?_eq_some_iff.1 ho).1
  exact h.jr y hy o ho
 intro fuel
 induction fuel with
 | zero =>
  intro L g a w hL h
  have hl:∀i,i<ops.size→L.getD i false=true:=fun i hi=>jU (by omega) (by rw[h.nC];exact hi)
  refine⟨?_,fin L g a w h hl⟩
  refine List.eq_nil_iff_forall_not_mem.2 fun i hi=>?_
  obtain⟨h1,o,h2,_⟩:=eT hi
  rw[hl i (Array.getElem?_eq_some_iff.1 h2).1]at h1;cases h1
 | succ fuel ih =>
  intro L g a w hL h
  refine⟨fun hr=>fin L g a w h (jV h.nC (zi L g a w h) hr),fun i hi=>?_⟩
  obtain⟨h1,o,h2,_⟩:=eT hi
  have aD:=(Array.getElem?_eq_some_iff.1 h2).1
  obtain⟨y,hy,rfl⟩:=ey i aD
  obtain⟨v,w',g',hs,hd⟩:=h.late (r:=r) hy hi
  have:=iM (by rw[h.nC];exact aD) h1
  exact hs _ _ (ih _ _ _ _ (by omega) hd)
theorem bG {R:ai}{H:aa}{Tl:ai→aa→Prop}{Qx:Exit→Act→World→Prop}{l:List It}(hd:Hd P n ops mu pre x o)(hx:x.early=false)(ey:∀i,i<ops.size→∃y∈pre++x :: l,y.i=i)
  (A9:∀y∈l,(∃o,ops[y.i]?=some o∧(∀j∈aU o,j<y.i))∧∀z∈pre++[x],z.early=true∨((bN ops.toList []).getD y.i 0).testBit z.i=true)
  (hT:∀R' H',Tl R' H'→∀fuel L' g' a' w',left L'≤fuel→Dr P n ops mu w0 df mk g0 ws H0 (pre++[x]) L' g' R' H' a' w'→wpAnyIn (Fw r) 0 P .any ops Qx fuel L' a' w')
  (hX:∀L g a w,Dr P n ops mu w0 df mk g0 ws H0 pre L g R H a w→(∀j∈aU o,L.getD j false=true)→∀K:Act→World→Prop,
   (∀R' H' g' a' w',Tl R' H'→Dr P n ops mu w0 df mk g0 ws H0 (pre++[x]) (L.setIfInBounds x.i true) g' R' H' a' w'→K a' w')→wpOpIn (Fw r) 0 P ops Qx x.i K a w) :
  ∀(fuel:Nat) (L:Array Bool) (g:Ctx) (a:Act) (w:World),left L≤fuel→Dr P n ops mu w0 df mk g0 ws H0 pre L g R H a w→wpAnyIn (Fw r) 0 P .any ops Qx fuel L a w:=by
 have tW:x.i<ops.size:=(Array.getElem?_eq_some_iff.1 hd.ho).1
 intro fuel
 induction fuel with
 | zero =>
  intro L g a w hL h
  have h1:=h.fx hd
  rw[jU (by omega) (by rw[h.nC];exact tW)]at h1;cases h1
 | succ fuel ih =>
  intro L g a w hL h
  have yN:=h.fx hd
  refine⟨fun hr=>?_,fun i hi=>?_⟩
  ·have hl:=jV h.nC (fun i o' fq j hj=>?_) hr x.i tW
   ·rw[hl]at yN;cases yN
   ·obtain⟨y,hy,rfl⟩:=ey i (Array.getElem?_eq_some_iff.1 fq).1
    rcases List.mem_append.1 hy with hy|hy
    ·exact h.jr y hy o' fq j hj
    ·rcases List.mem_cons.1 hy with rfl|hy
     ·rw[hd.ho]at fq;cases fq;exact(hd.pred j hj).1
     ·obtain⟨⟨o2,h2,h3⟩,_⟩:=A9 y hy
      rw[h2]at fq;cases fq;exact h3 j hj
  ·obtain⟨h1,o',h2,h3⟩:=eT hi
   have aD:=(Array.getElem?_eq_some_iff.1 h2).1
   have Ih:=iM (by rw[h.nC];exact aD) h1
   obtain⟨y,hy,rfl⟩:=ey i aD
   rcases List.mem_append.1 hy with hy|hy
   ·obtain⟨v,w',g',hs,EM⟩:=h.late (r:=r) hy hi
    exact hs _ _ (ih _ _ _ _ (by omega) EM)
   ·rcases List.mem_cons.1 hy with rfl|hy
    ·rw[hd.ho]at h2;cases h2
     exact hX L g a w h h3 _ fun R' H' g' a' w' ht EM=>hT R' H' ht fuel _ g' a' w' (by omega) EM
    ·obtain⟨⟨o2,h4,h5⟩,h6⟩:=A9 y hy
     rw[h2]at h4;cases h4
     rcases h6 x (by simp)with h7|h7
     ·rw[hx]at h7;cases h7
     ·have:=h.bit h2 (fun j hj=>⟨h5 j hj,h3 j hj⟩) h7
      rw[yN]at this;cases this
end
def EN (P : Program)(w0 : World) : J → aa → (Out → aa → Prop) → Prop
  | .code c R, H, Q => ∀(g : Ctx) (w : World) (a : Act) (n : Nat) (an : An) (top : Bool) (code : Code) (r : Option Nat), ax P n an top code = some c → (top = true → r = none) → b8 P g → SR w0 g H w → di g w n R a →
      code.wpIn (Fw r) 0 P (eI w0 n c.ep a.defers (R n) g w H Q) a w ∧ ∀body, code = .loop body → iK (Fw r) 0 P body (eI w0 n c.ep a.defers (R n) g w H Q) a w
  | .ops l R, H, Q => (∀(g0 : Ctx) (ws : World) (H0 : aa) (g : Ctx) (w : World) (a : Act) (n : Nat) (ops : Array Oper) (mu : Nat → Bool) (is : List Nat) (r : Option Nat), cr P n ops mu is = some l → b8 P g → SR w0 g H w → di g w n R a →
        Le g0 ws g w → Fr g0 H0 g H → wpOpsIn (Fw r) 0 P ops (nG w0 n a.defers (R n) g0 ws H0 Q) is a w) ∧
      (∀(n : Nat) (ops : Array Oper) (mu : Nat → Bool) (df : List Deferred) (mk : T) (g0 : Ctx) (ws : World) (H0 : aa) (pre : List It) (L : Array Bool) (g : Ctx) (a : Act) (w : World) (ord : List (Nat×Bool)) (dL : List It) (r : Option Nat) (fuel : Nat),
        b8 P g → bA P n ops mu (bN ops.toList []) pre ord = some dL → dL.map (·.o) = l → Dr P n ops mu w0 df mk g0 ws H0 pre L g R H a w → left L ≤ fuel → wpAnyIn (Fw r) 0 P .any ops (nG w0 n df mk g0 ws H0 Q) fuel L a w)
  | .call f aq, H, Q => ∀(g : Ctx) (w : World) (args : List Value), b8 P g → SR w0 g H w → ay g w aq args → bc P f = true ∧ CallsIn (Fw none) 0 P f args.toArray w (iJ w0 g w H fun v H' => Q (.val v) H')
theorem eI.trans {w0 w w':World}{n:Nat}{hr e7:Bool}{df EO:List Deferred}{mk mk':T}{g g':Ctx}{H H':aa}{Q:Out→aa→Prop}(le:Le g w g' w')(fr:Fr g H g' H')(hm:Mk g mk df→Mk g' mk' EO)(hh:hr=false→e7=false∧mk'=mk∧EO=df)
  {e:Exit} {a:Act} {u:World} (h:eI w0 n e7 EO mk' g' w' H' Q e a u):eI w0 n hr df mk g w H Q e a u:=by
 obtain⟨ex,R',g2,H2,h1,h2,h3,h4,h5,h6,h7,h8⟩:=h
 refine⟨ex,R',g2,H2,h1,h2,le.trans h3,h4,h5,fr.trans h6,fun m=>h7 (hm m),fun e=>?_⟩
 obtain⟨k1,k2,k3⟩:=hh e
 obtain⟨k4,k5⟩:=h8 k1
 exact⟨k4.trans k2,k5.trans k3⟩
theorem nG.G7 {w0 w:World}{n:Nat}{hr:Bool}{df:List Deferred}{mk:T}{g:Ctx}{H:aa}{Q:Out→aa→Prop}{e:Exit}{a:Act}{u:World}(h:nG w0 n df mk g w H Q e a u):eI w0 n hr df mk g w H Q e a u:=by
 obtain⟨ex,R',g2,H2,h1,h2,h3,h4,h5,h6,h7,h8⟩:=h
 exact⟨ex,R',g2,H2,h1,h2,h3,h4,h5,h6,fun m=>by rw[h7,h8];exact m.mono h3,fun _=>⟨h8,h7⟩⟩
section
variable {P:Program} {n:Nat} {an:An} {top:Bool} {code:Code}
theorem rm (h:ax P n an top code=some .skip):code=.skip:=by
 cases code<;>(try simp only[ax]at h)
 case region id ops draw=>cases draw<;>simp only[ax]at h<;>(repeat' split at h)<;>simp at h
 all_goals first|rfl|(cases h;done)|((repeat' split at h)<;>simp at h;done)|(simp at h;done)
theorem rn {id:Nat}(h:ax P n an top code=some (.exit id)):code=.exit id:=by
 cases code<;>(try simp only[ax]at h)
 case region id ops draw=>cases draw<;>simp only[ax]at h<;>(repeat' split at h)<;>simp at h
 all_goals first|(cases h;rfl)|(cases h;done)|((repeat' split at h)<;>simp at h;done)|(simp at h;done)
theorem vN (h:ax P n an top code=some .ret):code=.ret:=by
 cases code<;>(try simp only[ax]at h)
 case region id ops draw=>cases draw<;>simp only[ax]at h<;>(repeat' split at h)<;>simp at h
 all_goals first|rfl|(cases h;done)|((repeat' split at h)<;>simp at h;done)|(simp at h;done)
theorem vO {x y:C}(h:ax P n an top code=some (.seq x y)):∃c d,code=.seq c d∧ax P n an top c=some x∧ax P n an top d=some y:=by
 cases code<;>(try simp only[ax]at h)
 case region id ops draw=>cases draw<;>simp only[ax]at h<;>(repeat' split at h)<;>simp at h
 case seq c d =>
  split at h
  ·rename_i h1 h2;cases h;exact⟨c,d,rfl,h1,h2⟩
  ·cases h
 all_goals first|(cases h;done)|((repeat' split at h)<;>simp at h;done)|(simp at h;done)
theorem rp {c:X}{x y:C}(h:ax P n an top code=some (.cond c x y)):∃o d e,code=.cond o d e∧aj o=some c∧ax P n an top d=some x∧ax P n an top e=some y∧∀t,o=.tmp t→t<n:=by
 cases code<;>(try simp only[ax]at h)
 case region id ops draw=>cases draw<;>simp only[ax]at h<;>(repeat' split at h)<;>simp at h
 case cond o d e =>
  split at h
  ·rename_i h1 h2 h3
   cases o with
   | tmp t =>
    simp only[decide_eq_true_eq]at h
    split at h
    ·rename_i h4;cases h;exact⟨_,d,e,rfl,h1,h2,h3,fun t' ht=>by cases ht;exact h4⟩
    ·cases h
   | _=>simp at h;obtain⟨rfl,rfl,rfl⟩:=h;exact⟨_,d,e,rfl,h1,h2,h3,fun t ht=>by cases ht⟩
  ·cases h
 all_goals first|(cases h;done)|((repeat' split at h)<;>simp at h;done)|(simp at h;done)
theorem pN {id:Nat}{x:C}(h:ax P n an top code=some (.block id x)):∃c,code=.block id c∧ax P n an top c=some x:=by
 cases code<;>(try simp only[ax]at h)
 case region id ops draw=>cases draw<;>simp only[ax]at h<;>(repeat' split at h)<;>simp at h
 case block Ii c =>
  simp only[Option.map_eq_some_iff]at h
  obtain⟨x',h1,h2⟩:=h
  cases h2;exact⟨c,rfl,h1⟩
 all_goals first|(cases h;done)|((repeat' split at h)<;>simp at h;done)|(simp at h;done)
theorem rq {x:C}(h:ax P n an top code=some (.loop x)):∃c,code=.loop c∧ax P n an top c=some x:=by
 cases code<;>(try simp only[ax]at h)
 case region id ops draw=>cases draw<;>simp only[ax]at h<;>(repeat' split at h)<;>simp at h
 case loop c =>
  simp only[Option.map_eq_some_iff]at h
  obtain⟨x',h1,h2⟩:=h
  cases h2;exact⟨c,rfl,h1⟩
 all_goals first|(cases h;done)|((repeat' split at h)<;>simp at h;done)|(simp at h;done)
theorem pO {m:Nat}{x:X}{ps:List Nat}{y z:C}(h:ax P n an top code=some (.bw m x ps y z)):∃g qs c d,code=.rangeFunc g qs c d∧aj g=some x∧ax P n an false c=some y∧ax P n an false d=some z∧top=true∧(∀t∈bn x,t<n)∧qs.toList=ps∧(∀p∈ps,p<n)∧m=n:=by
 cases code<;>(try simp only[ax]at h)
 case region id ops draw=>cases draw<;>simp only[ax]at h<;>(repeat' split at h)<;>simp at h
 case rangeFunc g qs c d =>
  split at h
  ·rename_i h1 h2 h3
   split at h
   ·rename_i h4
    cases h
    simp only[Bool.and_eq_true,List.all_eq_true,decide_eq_true_eq]at h4
    exact⟨g,qs,c,d,rfl,h1,h2,h3,h4.1.1,h4.1.2,rfl,h4.2,rfl⟩
   ·cases h
  ·cases h
 all_goals first|(cases h;done)|((repeat' split at h)<;>simp at h;done)|(simp at h;done)
theorem vP {l:List O}(h:ax P n an top code=some (.ops l)):∃id ops mu,(code=.region id ops false∧cr P n ops mu (List.range ops.size)=some l) ∨
  (code=.region id ops true∧∃ord dL,bA P n ops mu (bN ops.toList []) [] ord=some dL∧dL.map (·.o)=l):=by
 cases code<;>(try simp only[ax]at h)
 case region id ops draw =>
  cases draw<;>simp only[ax]at h
  ·simp only[Option.map_eq_some_iff]at h
   obtain⟨l',h1,h2⟩:=h
   cases h2;exact⟨id,ops,_,.inl ⟨rfl,h1⟩⟩
  ·split at h
   ·rename_i ord _
    simp only[Option.map_eq_some_iff]at h
    obtain⟨dL,h1,h2⟩:=h
    cases h2;exact⟨id,ops,_,.inr ⟨rfl,ord,dL,h1,rfl⟩⟩
   ·cases h
 all_goals first|(cases h;done)|((repeat' split at h)<;>simp at h;done)|(simp at h;done)
end
theorem bg {P:Program}{n:Nat}{ops:Array Oper}{mu:Nat→Bool}{is:List Nat}{o:O}{l:List O}(h:cr P n ops mu is=some (o :: l)) :
  ∃i jg oper,is=i :: jg∧ops[i]?=some oper∧bX P n ops (mu i) oper []=some o∧cr P n ops mu jg=some l:=by
 cases is with
 | nil=>simp[cr]at h
 | cons i jg =>
  simp only[cr]at h
  split at h
  ·rename_i oper ho
   split at h
   ·rename_i h1 h2;cases h;exact⟨i,jg,oper,rfl,ho,h1,h2⟩
   ·cases h
  ·cases h
theorem lY {P:Program}{n:Nat}{ops:Array Oper}{mu:Nat→Bool}{is:List Nat}(h:cr P n ops mu is=some []):is=[]:=by
 cases is with
 | nil=>rfl
 | cons i jg =>
  simp only[cr]at h
  split at h
  ·split at h<;>simp at h
  ·cases h
theorem cC {P:Program}{n:Nat}{ops:Array Oper}{mu:Nat→Bool}{pre:List It}{ord:List (Nat×Bool)}{dL:List It}{o:O}{l:List O}(h:bA P n ops mu (bN ops.toList []) pre ord=some dL)(hm:dL.map (·.o)=o :: l) :
  ∃x l' bT oper,dL=x :: l'∧x.o=o∧l'.map (·.o)=l∧Hd P n ops mu pre x oper∧bA P n ops mu (bN ops.toList []) (pre++[x]) bT=some l':=by
 cases ord with
 | nil =>
  simp only[bA]at h
  split at h
  ·cases h;simp at hm
  ·cases h
 | cons y bT =>
  obtain⟨x,l',oper,rfl,h1,h2⟩:=eb h
  simp only[List.map_cons,List.cons.injEq]at hm
  exact⟨x,l',bT,oper,rfl,hm.1,hm.2,h1,h2⟩
section
variable {P:Program} {n:Nat} {ops:Array Oper} {mu:Nat→Bool} {w0 w ws:World} {df:List Deferred} {mk:T} {g g0:Ctx} {H H0 H':aa} {pre:List It} {L:Array Bool} {R:ai} {a:Act} {r:Option Nat} {x:It} {o:Oper}
theorem Hd.sub (hd:Hd P n ops mu pre x o)(v:T):(∀t∈e9 x.o.g,aA R x.o.d v t=R t)∧∀t∈lL x.o.op,aA R x.o.d v t=R t:=by
 obtain⟨t1,t2,_⟩:=cR hd.ts
 exact⟨fun t ht=>aP fun e=>(hd.dst t e).2 (t1 t ht),fun t ht=>aP fun e=>(hd.dst t e).2 (t2 t ht)⟩
theorem Dr.vQ (h:Dr P n ops mu w0 df mk g0 ws H0 pre L g R H a w)(hd:Hd P n ops mu pre x o)(he:x.early=true)(hw:av R x.o.g=false):Dr P n ops mu w0 df mk g0 ws H0 (pre++[x]) L g (aA R x.o.d aw) H a w:=by
 refine h.take hd he (.inl ⟨?_,fun d e=>by rw[e,du]⟩) (.inl rfl) fun k hk=>?_
 ·rw[eH (R':=R) (hd.sub aw).1];exact hw
 ·unfold ea at hk
  split at hk
  ·rename_i e _;rw[e,du]at hk;cases hk
  ·rename_i e _;rw[e,du]at hk;cases hk
  ·cases hk
theorem Dr.vR {b:Bo}{v:T}(h:Dr P n ops mu w0 df mk g0 ws H0 pre L g R H a w)(hd:Hd P n ops mu pre x o)(he:x.early=true)(hb:x.o.op=.b b)(hw:av R x.o.g=true)(hv:ae R H b=some (v,H')) :
  Dr P n ops mu w0 df mk g0 ws H0 (pre++[x]) L g (aA R x.o.d v) H' a w:=by
 obtain⟨k1,k2⟩:=hd.kl he
 cases vS:x.o.d with
 | none=>exact absurd (by simp[ua,hb,vS]) k1
 | some d =>
  have Ij:ua x.o=gw b:=by simp[ua,hb,vS]
  rw[Ij]at k1 k2
  have ng:av (aA R x.o.d v) x.o.g=true:=by rw[eH (R':=R) (hd.sub v).1];exact hw
  have Ik:∀H2,ae (aA R x.o.d v) H2 b=ae R H2 b:=fun H2=>iD fun t ht=>(hd.sub v).2 t (by rw[hb];exact ht)
  have EP:aA R x.o.d v d=v:=by rw[vS,du]
  rw[←vS]
  have hq:(gw b=.pure∨gw b=.read)→H'=H→Dr P n ops mu w0 df mk g0 ws H0 (pre++[x]) L g (aA R x.o.d v) H' a w:=by
   rintro hk rfl
   refine h.take hd he (.inr ⟨ng,d,b,vS,hb,.inl ⟨hk,by rw[Ik,EP];exact hv⟩⟩) (.inl rfl) fun k hm=>?_
   unfold ea at hm
   rw[hb]at hm
   split at hm
   ·rename_i h1;cases h1;simp[gw]at hk
   ·rename_i h1;cases h1;simp[gw]at hk
   ·cases hm
  cases hk:gw b with
  | wR=>exact absurd hk k1
  | pure=>exact hq (.inl hk) (eR hk hv).1
  | read=>exact hq (.inr hk) (eS hk hv).1
  | make =>
   have G8:H0.length≤H.length:=h.fr.1
   cases b<;>simp only[gw]at hk<;>(try (cases hk;done))
   case eX=>split at hk<;>cases hk
   case alloc z =>
    simp only[ae,Option.some.injEq,Prod.mk.injEq]at hv
    obtain⟨rfl,rfl⟩:=hv
    refine h.take hd he (.inr ⟨ng,d,_,vS,hb,.inr (.inl ⟨H.length,z,rfl,EP,bE _ _,h.sr.tX (Nat.le_refl _),G8⟩)⟩) (.inr ⟨_,rfl,.inl ⟨_,rfl⟩⟩) fun k hm=>?_
    simp only[ea,vS,hb,du,fc,Option.some.injEq]at hm
    omega
   case nV =>
    simp only[ae,Option.some.injEq,Prod.mk.injEq]at hv
    obtain⟨rfl,rfl⟩:=hv
    refine h.take hd he (.inr ⟨ng,d,_,vS,hb,.inr (.inr ⟨H.length,rfl,EP,bE _ _,h.sr.tX (Nat.le_refl _),G8⟩)⟩) (.inr ⟨_,rfl,.inr ⟨_,rfl⟩⟩) fun k hm=>?_
    simp only[ea,vS,hb,du,fc,Option.some.injEq]at hm
    omega
theorem Dr.bH (h:Dr P n ops mu w0 df mk g0 ws H0 pre L g R H a w)(hd:Hd P n ops mu pre x o)(hp:∀j∈aU o,L.getD j false=true):cB g w R a (tmpsOf o x.o.op x.o.g) :=
 h.look hd.ho (fun j hj=>⟨(hd.pred j hj).1,hp j hj⟩) (fR hd.co) fun z hz _ d hN ht=>hd.EJ z hz d hN (by rw[hd.ts];exact ht)
theorem Dr.stays (h:Dr P n ops mu w0 df mk g0 ws H0 pre L g R H a w)(hd:Hd P n ops mu pre x o)(he:x.early=false)(hp:∀j∈aU o,L.getD j false=true)(hs:cH R H' x.o.gO) :
  ∀y∈pre,L.getD y.i false=false→∀d b,av R y.o.g=true→y.o.d=some d→y.o.op=.b b→gw b=.read→ae R H b=some (R d,H)→ae R H' b=some (R d,H'):=by
 intro y hy hu d b hw vI Il hk _
 have oe:y.early=true:=by cases e:y.early with|true=>rfl|false=>rw[h.iH y hy e]at hu;cases hu
 have ER:((bN ops.toList []).getD x.i 0).testBit y.i=false:=by
  cases e:((bN ops.toList []).getD x.i 0).testBit y.i with
  | false=>rfl
  | true=>rw[h.bit hd.ho (fun j hj=>⟨(hd.pred j hj).1,hp j hj⟩) e]at hu;cases hu
 have hm:=iI pre hy oe vI Il hk ER
 rw[←hd.st he]at hm
 exact hs _ hm hw
end
theorem lZ {g:Ctx}{w:World}{n:Nat}:∀(ps:List Nat) (vs:List T) (us:List Value) (R:ai) (tmps:Array Value),ay g w vs us→vs.length=ps.length→tmps.size=n→(∀t,t<n→VR g w (R t) (tmps.getD t undef))→(∀p∈ps,p<n) →
  ((ps.zip us).foldl (fun tmps (t,a)=>tmps.setIfInBounds t a) tmps).size=n∧∀t,t<n→VR g w (fB R ps vs t) (((ps.zip us).foldl (fun tmps (t,a)=>tmps.setIfInBounds t a) tmps).getD t undef)
 | [],vs,us,R,tmps,hv,hl,hn,hr,_=>by
  cases vs with
  | nil=>exact⟨by simpa using hn,by simpa[fB]using hr⟩
  | cons _ _=>simp at hl
 | p :: ps,[],us,R,tmps,hv,hl,hn,hr,_=>by simp at hl
 | p :: ps,v :: vs,[],R,tmps,hv,hl,hn,hr,_=>by have:=hv.1;simp at this
 | p :: ps,v :: vs,u :: us,R,tmps,hv,hl,hn,hr,hp=>by
  simp only[List.zip_cons_cons,List.foldl_cons,fB]
  refine lZ ps vs us (jj R p v) (tmps.setIfInBounds p u) hv.tail (by simpa using hl) (by simpa using hn) (fun t ht=>?_) (fun q hq=>hp q (by simp[hq]))
  have y6:p<tmps.size:=by rw[hn];exact hp p (by simp)
  by_cases e:p=t
  ·subst e;simp only[jj,if_true];rw[Array.getD_eq_getD_getElem?];simp[y6];exact hv.head
  ·simp only[jj];rw[if_neg (Ne.symm e),Array.getD_eq_getD_getElem?,Array.getElem?_setIfInBounds_ne e,←Array.getD_eq_getD_getElem?];exact hr t ht
section
variable {P:Program} {w0 w ws:World} {g g0:Ctx} {H H0 H':aa} {R:ai} {a:Act} {n:Nat} {ops:Array Oper} {r:Option Nat} {mu:Bool} {i:Nat} {o:Oper} {st jf:List Rd}
theorem ru {e:Ex}(h:e≠.normal):(∃id,e=.exit id∧lp (some e)=some (.exit id))∨(e=.ret∧lp (some e)=some .ret):=by
 cases e with
 | normal=>exact absurd rfl h
 | exit id=>exact .inl ⟨id,rfl,rfl⟩
 | ret=>exact .inr ⟨rfl,rfl⟩
theorem l0 {d:Option Nat}{x:X}{aq:List X}{gd:Gd}{b m:Nat}{R0:ai}{ps:List Nat}{bh body:C}{M1 M:Out→aa→Prop}(ho:ops[i]?=some o)(hc:bX P n ops mu o st=some ⟨d,.bl x aq,gd,jf⟩)(hn:a.tmps.size=n)(hr:cB g w R a (tmpsOf o (.bl x aq) gd))(hw:av R gd=true)
  (hx:x.ev R=.gY b) (hb:H[b]?=some (.loop .ready none m R0 ps bh body)) (hlen:aq.length=ps.length) (ck:b8 P g) (sr:SR w0 g H w)
  (om:EN P w0 (.code bh (fB R0 ps (aq.map (X.ev R)))) H M1) (qi:∀o H',M1 o H'→(∃R1,o=.ex .normal R1)∧H'[b]?=some (.loop .ready none m R0 ps bh body))
  (jh:∀R1 H1,M1 (.ex .normal R1) H1→EN P w0 (.code body R1) (H1.set b (.loop .busy none m R0 ps bh body)) M) (mU:∀o H',M o H'→H'[b]?=some (.loop .busy none m R0 ps bh body))
  {K:Act→World→Prop} {Q:Exit→Act→World→Prop}
  (hk:∀v w' g' H' t,((∃R' H2,M (.ex .normal R') H2∧t=.bool true∧H'=H2.set b (.loop .ready none m R0 ps bh body))∨(∃e R' H2,M (.ex e R') H2∧e≠.normal∧t=.bool false∧H'=H2.set b (.loop .done (some e) m R0 ps bh body))) →
   Le g w g' w'→SR w0 g' H' w'→VR g' w' t v→Fr g H g' H'→K (a.put d v) w'):wpOpIn (Fw r) 0 P ops Q i K a w:=by
 obtain⟨zr,zt,h1,h2,h3,h4,h5⟩:=ar hc
 cases h3
 refine cV ho hc hn hr hw ⟨fun _ _=>trivial,?_⟩
 have jJ:=cU h1
 obtain⟨t,args,dt,rfl,Ai,h6⟩:=fb h1 (by rintro rfl;cases hx)
 have iP:=eU hr
 have hv:=cj (ρ:=a.eval) args.toList aq h6 (jQ (iP.sub fun t ht=>by
  simp only[bQ,List.mem_filterMap]at ht ⊢
  obtain⟨x,hx,e⟩:=ht
  exact⟨x,by rw[Ai];simp only[Op.operands,Call.operands];simp at hx;simp[hx],e⟩))
 have hf:=iP t (by rw[Ai];simp only[bQ,List.mem_filterMap];exact⟨.tmp t,by simp[Op.operands,Call.operands],rfl⟩)
 simp only[X.ev]at hx
 rw[hx]at hf
 generalize pB:a.tmps.getD t undef=vf at hf
 cases hf with
 | @gY _ l o' q' hφ =>
  obtain⟨k1,rec,k2,k3,k4,k5,k6,k7,k8,k9,Im⟩:=sr.dy b _ hb l o' q' hφ
  rw[Oper.semAt_eq _ _ _ jJ]
  have b6:(args.toList.map a.eval).toArray.size=rec.params.size:=by
   have:=hv.1;simp at this
   have e2:rec.params.size=ps.length:=by rw[←k5];simp
   simp[e2,←hlen,this]
  have aJ:(execOp a.eval o).run P w=.ok (.round l rec.fn ((rec.params.zip (args.toList.map a.eval).toArray).foldl (fun tmps (t,a)=>tmps.setIfInBounds t a) rec.tmps) rec.assign rec.body) w:=by
   have hy:=run_yield (P:=P) (args:=(args.toList.map a.eval).toArray) k2 b6
   have e2:(args.toList.map a.eval).toArray=args.map a.eval:=by rw[←Array.toList_map]
   rw[e2]at hy ⊢
   have e:a.eval (.tmp t)=.func (.yield l) #[] #[]:=pB
   simp only[execOp,Ai,resolve,e,Deferred.ofValue,invoke]
   simpa using hy
  rw[aJ,Oper.uponIn_round]
  refine⟨fun h=>by simp[Fw]at h,roundIn_of_wpIn trivial ?_⟩
  have p8:(rec.params.zip (args.toList.map a.eval).toArray).foldl (fun tmps (t,a)=>tmps.setIfInBounds t a) rec.tmps=(ps.zip (args.toList.map a.eval)).foldl (fun tmps (t,a)=>tmps.setIfInBounds t a) rec.tmps:=by
   rw[←Array.foldl_toList,Array.toList_zip,k5]
  rw[p8]
  have ni:=lZ ps (aq.map (X.ev R)) (args.toList.map a.eval) R0 rec.tmps hv (by simpa using hlen) k6 k7 k8
  obtain⟨Ip,uV⟩:=(ck _ _ _).1 k9
  obtain⟨Iq,uW⟩:=(ck _ _ _).1 Im
  refine wpIn_mono (om g w { tmps:=(ps.zip (args.toList.map a.eval)).foldl (fun tmps (t,a)=>tmps.setIfInBounds t a) rec.tmps,defers:=[] } m Ip false rec.assign (some l) uV (by simp) ck sr ni).1 fun e a1 w1 hp=>?_
  obtain⟨ex,R1,g1,H1,e1,hm,cP,zf,G9,ES,-,-⟩:=hp
  obtain⟨⟨JR,Is⟩,jC⟩:=qi _ _ hm
  cases Is
  cases e<;>simp only[jt,Option.some.injEq,reduceCtorEq]at e1
  have Am:=cP.φ _ _ hφ
  obtain⟨j1,ET,j2,j3,j4,j5,j6,j7,j8,j9,Ha⟩:=zf.dy b _ jC l o' q' Am
  refine⟨_,run_beginRound j2 j3,?_⟩
  obtain⟨vT,wU,wV⟩:=zf.kI (y':=.loop .busy none m R0 ps bh body) (x':=.loop { ET with state:=.busy }) jC Am j1 j2 rfl rfl (fun w' le ng r o q hq=>by
   rw[Am]at hq;cases hq
   exact⟨j1,_,ng,rfl,j4,j5,j6,fun t ht=>(j7 t ht).mono le,j8,j9,Ha⟩)
  refine wpIn_mono (jh _ _ hm g1 _ a1 m Iq false rec.body (some l) uW (by simp) (ck.mono cP) wU ⟨G9.1,fun t ht=>(G9.2 t ht).mono vT⟩).1 fun e2 a2 w3 Iu=>?_
  obtain⟨DS,R2,g2,H2,e3,ub,mP,nH,JS,pP,-,-⟩:=Iu
  have yO:=mU _ _ ub
  have n8:=mP.φ _ _ Am
  obtain⟨i1,EU,i2,i3,i4,i5,i6,i7,i8,i9,i10⟩:=nH.dy b _ yO l o' q' n8
  have fin:∀(jump:Option Code) (st:qa) (pe:Option Ex) (v:Bool),lp pe=jump→st.real=(if jump.isNone then .ready else .done)→v=jump.isNone →
    ((v=true∧DS=.normal∧st=.ready∧pe=none)∨(v=false∧DS≠.normal∧st=.done∧pe=some DS)) →
    ∃v' w',(Instr.endRound l jump).run P w3=.ok v' w'∧K (a.put o.dst v') w':=by
   intro jump st pe v q1 q2 q3 q4
   obtain⟨l3,oo,pQ⟩:=nH.kI (y':=.loop st pe m R0 ps bh body) (x':=.loop { EU with state:=if jump.isNone then .ready else .done,pending:=jump }) yO n8 i1 i2 rfl rfl (fun w' le ng r o q hq=>by
    rw[n8]at hq;cases hq
    exact⟨i1,_,ng,q2.symm,q1.symm,i5,i6,fun t ht=>(i7 t ht).mono le,i8,i9,i10⟩)
   refine⟨_,_,run_endRound jump i2,?_⟩
   refine hk _ _ g2 (H2.set b (.loop st pe m R0 ps bh body)) (.bool v) ?_ (((cP.trans vT).trans mP).trans l3) oo (by rw[←q3];exact .bool v) (((ES.trans wV).trans pP).trans pQ)
   rcases q4 with⟨rfl,rfl,rfl,rfl⟩|⟨rfl,aF,rfl,rfl⟩
   ·exact .inl ⟨R2,H2,ub,rfl,rfl⟩
   ·exact .inr ⟨DS,R2,H2,ub,aF,rfl,rfl⟩
  cases e2<;>simp only[jt,Option.some.injEq,reduceCtorEq]at e3<;>subst e3
  case normal=>exact fin none .ready none true rfl rfl rfl (.inl ⟨rfl,rfl,rfl,rfl⟩)
  case exit id=>exact fin (some (.exit id)) .done (some (.exit id)) false rfl rfl rfl (.inr ⟨rfl,by simp,rfl,rfl⟩)
  case ret=>exact fin (some .ret) .done (some .ret) false rfl rfl rfl (.inr ⟨rfl,by simp,rfl,rfl⟩)
end
theorem kN {P:Program}{w0:World}{F:Func}{n:Nat}{t0:T}{res:List Rs}:∀(ts:List T) (df:List Deferred) (bs:List Nat) (g:Ctx) (H:aa) (w:World) (R:ai) (a:Act) (Rr:Ending→World→Prop),
  lV g ts df→hY ts=some bs→bs.Nodup→(∀b∈bs,H[b]?=some .lj)→SR w0 g H w→di g w n R a →
  (∀w' v,Le g w g w'→SR w0 g (kill H bs) w'→di g w' n R a→Fr g H g (kill H bs)→(results F a.tmps).run P w'=.ok v w'→VR g w' t0 v→Rr (.returned v) w') →
  fD R (kill H bs) res=some t0→(∀(g:Ctx) (w:World) (H:aa),SR w0 g H w→di g w n R a→fD R H res=some t0→∃v,(results F a.tmps).run P w=.ok v w∧VR g w t0 v) →
  LeavesInM (Fw none) 0 P F a.tmps Rr df .returning w:=by
 intro ts
 induction ts with
 | nil =>
  intro df bs g H w R a Rr hm hb _ _ sr hr hk gS aJ
  cases hm
  simp only[hY,Option.some.injEq]at hb;subst hb
  obtain⟨v,h1,h2⟩:=aJ g w H sr hr gS
  exact⟨v,h1,hk w v (.refl _ _) sr hr (.refl _ _) h1 h2⟩
 | cons t ts ih =>
  intro df bs g H w R a Rr hm hb jJ vU sr hr hk gS aJ
  cases hm with
  | @cons b r o q _ df hφ Ba =>
   simp only[hY,qg]at hb
   split at hb
   ·rename_i b' Iv e1 e2
    cases e1
    cases hb
    have Hb:=vU b (by simp)
    obtain⟨k1,k2⟩:=sr.dy b _ Hb r o q hφ
    obtain⟨le,cW,gL⟩:=sr.kI (y':=.dead) (x':=.deferred none) Hb hφ k1 k2 rfl rfl (fun _ _ _=>trivial)
    refine⟨by simp,.inl ⟨r,_,rfl,run_takeDeferred k2,?_⟩⟩
    simp only[List.nodup_cons]at jJ
    refine ih df Iv g (H.set b .dead) _ R a Rr Ba e2 jJ.2 (fun c hc=>?_) cW ⟨hr.1,fun t ht=>(hr.2 t ht).mono le⟩ (fun w' v vT wU Iw wV=>hk w' v (le.trans vT) wU Iw (gL.trans wV)) gS aJ
    exact bF (vU c (by simp[hc])) (by rintro rfl;exact jJ.1 hc)
   ·cases hb
section
variable {P:Program} {w0 w ws:World} {g g0:Ctx} {H H0 H':aa} {R:ai} {a:Act} {n:Nat} {ops:Array Oper} {r:Option Nat} {mu:Bool} {i:Nat} {o:Oper} {st jf:List Rd}
theorem l4 {d:Option Nat}{nn bytes t b len:Nat}{yy:X}{cs:List T}{gd:Gd}{v:T}(ho:ops[i]?=some o)(hc:bX P n ops mu o st=some ⟨d,.b (.app nn bytes false (.r t) yy),gd,jf⟩)(hn:a.tmps.size=n)(hr:cB g w R a (tmpsOf o (.b (.app nn bytes false (.r t) yy)) gd))(hw:av R gd=true)
  (h:SR w0 g H w) (ht:R t=.aQ b 0 len nn) (hb:H[b]?=some (.cells cs)) (hlen:len*nn=cs.length) (h0:0<len)
  (he:ae (jj R t (.sl (.own H.length len) (dP cs 0 len nn))) (H.set b (.fz cs)++[.tok len]) (.app nn bytes false (.r t) yy)=some (v,H')) :
  ∃u w' g',(∀(K:Act→World→Prop) (Q:Exit→Act→World→Prop),K (a.put d u) w'→wpOpIn (Fw r) 0 P ops Q i K a w)∧Le g w g' w'∧SR w0 g' H' w'∧VR g' w' v u∧Fr g H g' H':=by
 have hm:=hr t (by simp[tmpsOf,lL,od,bn])
 rw[ht]at hm
 obtain⟨g4,l3,oo,pQ,rv⟩:=h.vF hb hm hlen h0
 have e7:cB g4 w (jj R t (.sl (.own H.length len) (dP cs 0 len nn))) a (tmpsOf o (.b (.app nn bytes false (.r t) yy)) gd):=fun u hu=>by
  by_cases e:u=t
  ·subst e
   simp only[jj,if_pos rfl]
   exact rv _ hm
  ·simp only[jj,if_neg e]
   exact(hr u hu).mono l3
 have ng:av (jj R t (.sl (.own H.length len) (dP cs 0 len nn))) gd=true:=by
  cases gd with
  | none=>rfl
  | some p =>
   obtain⟨u,c⟩:=p
   by_cases e:u=t
   ·subst e
    simp[av,ht]at hw
   ·simpa only[av,jj,if_neg e]using hw
 obtain⟨u,w',g',k1,le,sr,hv,fr⟩:=kM (r:=r) ho hc hn e7 ng oo he
 exact⟨u,w',g',k1,l3.trans le,sr,hv,pQ.trans fr⟩
end
def l5 (tmps:Array Value):ResultVar→Sem Value
 | .tmp t=>pure (tmps.getD t undef)
 | .cell a t=>do loadVar t (←asAddr (tmps.getD a undef))
theorem eJ {P:Program}{w0:World}{g:Ctx}{w:World}{H:aa}{R:ai}{a:Act}{n:Nat}(sr:SR w0 g H w):∀(l:List ResultVar) (res:List Rs) (ts:List T),fP P l=some res→jk R H res=some ts→(∀t∈res,pC n t=true)→di g w n R a →
  ∃vs:List Value,(l.mapM (l5 a.tmps)).run P w=.ok vs w∧ay g w ts vs
 | [],res,ts,h,ht,_,_=>by simp[fP]at h;subst h;simp[jk]at ht;subst ht;exact⟨[],by simp,ay.nil⟩
 | .tmp t :: l,res,ts,h,ht,hn,hr=>by
  simp only[fP,Option.map_eq_some_iff]at h
  obtain⟨zu,h1,rfl⟩:=h
  simp only[jk,mS]at ht
  split at ht
  ·rename_i v vs hv fX
   cases ht;cases hv
   obtain⟨us,h2,h3⟩:=eJ (P:=P) sr l zu vs h1 fX (fun t ht=>hn t (by simp[ht])) hr
   exact⟨a.tmps.getD t undef :: us,by rw[List.mapM_cons];simp only[Sem.run_bind,l5,Sem.run_pure,Result.andThen_ok,h2],ay.cons (hr.2 t (by simpa[pC]using hn (.t t) (by simp))) h3⟩
  ·cases ht
 | .cell c t :: l,res,ts,h,ht,hn,hr=>by
  simp only[fP]at h
  split at h
  ·rename_i d i hu hi
   simp only[Option.map_eq_some_iff]at h
   obtain⟨zu,h1,rfl⟩:=h
   simp only[jk]at ht
   split at ht
   ·rename_i v vs hv fX
    cases ht
    obtain⟨us,h2,h3⟩:=eJ (P:=P) sr l zu vs h1 fX (fun t ht=>hn t (by simp[ht])) hr
    simp only[mS]at hv
    split at hv
    ·rename_i cs kX
     have hc:=hr.2 c (by simpa[pC]using hn (.cl c (if bC d=true then i.size else 1) (bC d)) (by simp))
     obtain⟨u,w',g',aJ,hw,bS,hg⟩:=ur (P:=P) hu hi rfl (fun e=>by rw[if_pos e]) sr hc kX hv
     subst hw;subst hg
     obtain⟨r,o,JT,hp,_⟩:=fk sr hc kX
     have Bb:(l5 a.tmps (.cell c t)).run P w'=.ok u w':=by
      rw[←aJ,hp]
      have e:l5 a.tmps (.cell c t)=(asAddr (a.tmps.getD c undef) >>= fun x=>loadVar t x):=rfl
      rw[e,hp]
      simp only[asAddr,Instr.loadAt,Instr.sureAddr,Sem.run_bind,Sem.run_pure,Result.andThen_ok]
     exact⟨u :: us,by rw[List.mapM_cons];simp only[Sem.run_bind,Bb,Result.andThen_ok,h2,Sem.run_pure],ay.cons bS h3⟩
    ·cases hv
   ·cases ht
  ·cases h
theorem iQ {P:Program}{fn:Func}{w0:World}{g:Ctx}{w:World}{H:aa}{R:ai}{a:Act}{n:Nat}{res:List Rs}{t:T}(sr:SR w0 g H w)(h:fP P fn.results.toList=some res)(hn:∀t∈res,pC n t=true)(hr:di g w n R a)(ht:fD R H res=some t):∃v,(results fn a.tmps).run P w=.ok v w∧VR g w t v:=by
 simp only[fD,Option.map_eq_some_iff]at ht
 obtain⟨ts,ht,rfl⟩:=ht
 obtain⟨vs,h1,h2⟩:=eJ (P:=P) sr fn.results.toList res ts h ht hn hr
 have hl:ts.length=vs.length:=h2.1
 have e:results fn a.tmps=(fn.results.mapM (l5 a.tmps) >>= fun vs=>pure (if h:vs.size=1 then vs[0]else .tuple vs)):=rfl
 refine⟨if h:vs.toArray.size=1 then vs.toArray[0]else .tuple vs.toArray,?_,?_⟩
 ·rw[e,Array.mapM_eq_mapM_toList]
  simp only[Sem.run_bind,Sem.run_map,map_eq_pure_bind,h1,Result.andThen_ok,Sem.run_pure]
 ·match ts,vs,hl,h2 with
  | [],[],_,_=>exact .bo rfl (by simp)
  | [t],[v],_,h2=>simpa[o8]using h2.head
  | t :: t' :: ts,v :: v' :: vs,_,h2 =>
   have:¬(v :: v' :: vs).toArray.size=1:=by simp
   rw[dif_neg this]
   simpa[o8]using h2.bo
theorem bZ {P:Program}{n:Nat}{ops:Array Oper}{mu:Bool}{o:Oper}{st:List Rd}{y:O}(h:bX P n ops mu o st=some y):y.d≠some n:=by
 obtain⟨_,_,_,_,e,_,h5⟩:=ar h
 subst e
 exact fun e=>Nat.lt_irrefl n (h5 n e)
theorem mQ {P:Program}{n:Nat}{ops:Array Oper}{mu:Nat→Bool}{w0 w ws w':World}{df:List Deferred}{mk:T}{g g0 g':Ctx}{H H0 H':aa}{pre EV:List It}{L L':Array Bool}{R R':ai}{a a':Act}
  (h:Dr P n ops mu w0 df mk g0 ws H0 pre L g R H a w) (h':Dr P n ops mu w0 df mk g0 ws H0 EV L' g' R' H' a' w') (ck:b8 P g):b8 P g':=fun n c k=>by rw[h'.le.ck,←h.le.ck];exact ck n c k
theorem iR {P:Program}{an:An}{f:FuncId}{fn:Fn}(kZ:af P an f=some fn):∃F code res body,P.funcs[f]?=some F∧F.body=some code∧fP P F.results.toList=some res∧ax P F.ntmps an true code=some body ∧
  bc P f=true∧F.params.size+F.nfree≤F.ntmps∧(∀t∈res,pC F.ntmps t=true)∧fn=⟨F.ntmps,F.params.size+F.nfree,res,body⟩:=by
 unfold af at kZ
 cases hF:P.funcs[f]? with
 | none=>simp[hF]at kZ
 | some F =>
  simp only[hF]at kZ
  split at kZ
  ·rename_i code res hb gS
   split at kZ
   ·rename_i c kF
    split at kZ
    ·rename_i hk
     simp only[Bool.and_eq_true,decide_eq_true_eq,List.all_eq_true]at hk
     obtain⟨⟨db,b6⟩,aD⟩:=hk
     cases kZ
     exact⟨F,code,res,c,rfl,hb,gS,kF,db,b6,aD,rfl⟩
    ·cases kZ
   ·cases kZ
  ·cases kZ
theorem iS {F:Func}{g:Ctx}{w:World}{aq:List T}{args:List Value}(hv:ay g w aq args){k:Nat}(hn:aq.length=k)(b6:k≤F.ntmps) :
  di g w F.ntmps (dp aq) { tmps:=args.toArray++Array.replicate (F.ntmps-args.toArray.size) undef,defers:=[] }:=by
 have DT:args.length=aq.length:=hv.1.symm
 refine⟨by simp[DT,hn];omega,fun t ht=>?_⟩
 by_cases DU:t<aq.length
 ·simp only[dp]
  rw[List.getD_eq_getElem?_getD,List.getElem?_eq_getElem DU,Option.getD_some]
  rw[Array.getD_eq_getD_getElem?,Array.getElem?_append_left (by simpa[DT]using DU)]
  simp only[List.getElem?_toArray,List.getElem?_eq_getElem (DT▸DU:t<args.length),Option.getD_some]
  exact hv.2 t _ _ (List.getElem?_eq_getElem DU) (List.getElem?_eq_getElem _)
 ·simp only[dp]
  rw[List.getD_eq_getElem?_getD,List.getElem?_eq_none (by omega),Option.getD_none]
  rw[Array.getD_eq_getD_getElem?,Array.getElem?_append_right (by simp[DT];omega),Array.getElem?_replicate]
  split<;>exact da
theorem eI.Bc {w0 w:World}{n:Nat}{hr e7:Bool}{df:List Deferred}{mk:T}{g:Ctx}{H:aa}{Q:Out→aa→Prop}(hh:hr=false→e7=false){e:Exit}{a:Act}{u:World}(h:eI w0 n e7 df mk g w H Q e a u):eI w0 n hr df mk g w H Q e a u :=
 h.trans (.refl _ _) (.refl _ _) id fun e=>⟨hh e,rfl,rfl⟩
theorem W.Ix {P:Program}{E:Env}{w0:World}(hE:oh P E w0){j:J}{H:aa}{Q:Out→aa→Prop}(h:W E j H Q):EN P w0 j H Q:=by
 induction h with
 | @skip R H Q h =>
  intro g w a n an top code r hc ht ck sr hr
  obtain rfl:=rm hc
  exact⟨wpIn_skip ⟨.normal,R,g,H,rfl,h,.refl _ _,sr,hr,.refl _ _,id,fun _=>⟨rfl,rfl⟩⟩,by rintro _⟨⟩⟩
 | @exit id R H Q h =>
  intro g w a n an top code r hc ht ck sr hr
  obtain rfl:=rn hc
  exact⟨wpIn_exit ⟨.exit id,R,g,H,rfl,h,.refl _ _,sr,hr,.refl _ _,fun m=>m,fun _=>⟨rfl,rfl⟩⟩,by rintro _⟨⟩⟩
 | @ret R H Q h =>
  intro g w a n an top code r hc ht ck sr hr
  obtain rfl:=vN hc
  exact⟨wpIn_ret ⟨.ret,R,g,H,rfl,h,.refl _ _,sr,hr,.refl _ _,id,fun _=>⟨rfl,rfl⟩⟩,by rintro _⟨⟩⟩
 | @Av l R H Q _ ih =>
  intro g w a n an top code r hc ht ck sr hr
  obtain⟨id,ops,mu,⟨rfl,h1⟩|⟨rfl,ord,dL,h1,h2⟩⟩:=vP hc
  ·exact⟨wpIn_mono (wpIn_region (ih.1 g w H g w a n ops mu _ r h1 ck sr hr (.refl _ _) (.refl _ _))) fun e a w hp=>hp.G7,by rintro _⟨⟩⟩
  ·refine⟨wpIn_mono (wpIn_region_any (Q:=nG w0 n a.defers (R n) g w H Q) hE.mixed ?_) fun e a w hp=>hp.G7,by rintro _⟨⟩⟩
   obtain⟨cW,le⟩:=sr.drew (w':={ w with drawn:=w.drawn+1 }) (Tr.drew w) rfl
   have hd:=Dr.init (ops:=ops) (mu:=mu) (P:=P) (mk:=R n) cW hr.1 rfl (fun t ht=>(hr.2 t ht).mono le) le (.refl g H)
   refine ih.2 n ops mu a.defers (R n) g w H [] _ g a _ ord dL r ops.size ck h1 h2 hd ?_
   exact Nat.le_trans (List.count_le_length) (by simp)
 | @seq x y R H Q M _ h2 h3 om jh =>
  intro g w a n an top code r hc ht ck sr hr
  obtain⟨c,d,rfl,k1,k2⟩:=vO hc
  refine⟨wpIn_seq (wpIn_mono (om g w a n an top c r k1 ht ck sr hr).1 fun e a' w' hp=>?_),by rintro _⟨⟩⟩
  have hb:(C.seq x y).ep=false→x.ep=false∧y.ep=false:=by simp[C.ep]
  obtain⟨ex,R',g',H',e1,hm,le,cW,e7,fr,kY,oq⟩:=hp
  cases e<;>simp only[jt,Option.some.injEq,reduceCtorEq]at e1<;>subst e1
  case normal =>
   exact wpIn_mono (jh R' H' hm g' w' a' n an top d r k2 ht (ck.mono le) cW e7).1 fun e a2 w2 hp=>hp.trans le fr kY fun e=>⟨(hb e).2,oq (hb e).1⟩
  case exit id=>exact⟨_,R',g',H',rfl,h3 _ _ hm (by simp),le,cW,e7,fr,kY,fun e=>oq (hb e).1⟩
  case ret=>exact⟨_,R',g',H',rfl,h3 _ _ hm (by simp),le,cW,e7,fr,kY,fun e=>oq (hb e).1⟩
 | @cond x c d R H Q t hx _ ih =>
  intro g w a n an top code r hc ht ck sr hr
  obtain⟨o,d',e',rfl,k1,k2,k3,k4⟩:=rp hc
  refine⟨wpIn_cond (t:=t) ?_ ?_,by rintro _⟨⟩⟩
  ·have hv:VR g w (.bool t) (a.eval o):=by
    cases o with
    | tmp u=>simp only[aj,Option.some.injEq]at k1;subst k1;simp only[X.ev]at hx;rw[←hx];exact hr.2 u (k4 u rfl)
    | const v =>
     simp only[aj,Option.map_eq_some_iff]at k1
     obtain⟨u,h1,rfl⟩:=k1
     simp only[X.ev]at hx;subst hx
     exact eO h1
    | «global» _=>simp[aj]at k1
    | func f=>simp only[aj,Option.some.injEq]at k1;subst k1;simp[X.ev]at hx
   generalize a.eval o=v at hv
   cases hv;rfl
  ·cases t
   ·exact wpIn_mono (ih g w a n an top e' r k3 ht ck sr hr).1 fun e a w hp=>hp.Bc (by simp[C.ep])
   ·exact wpIn_mono (ih g w a n an top d' r k2 ht ck sr hr).1 fun e a w hp=>hp.Bc (by simp[C.ep];intro h _;exact h)
 | @block id x R H Q M _ h2 h3 ih =>
  intro g w a n an top code r hc ht ck sr hr
  obtain⟨c,rfl,k1⟩:=pN hc
  refine⟨wpIn_block (wpIn_mono (ih g w a n an top c r k1 ht ck sr hr).1 fun e a' w' hp=>?_),by rintro _⟨⟩⟩
  obtain⟨ex,R',g',H',e1,hm,le,cW,e7,fr,oq⟩:=hp
  cases e<;>simp only[jt,Option.some.injEq,reduceCtorEq]at e1<;>subst e1
  case normal=>exact⟨_,R',g',H',rfl,h3 _ _ hm (by simp),le,cW,e7,fr,oq⟩
  case exit Ii =>
   simp only[Exit.inBlock]
   split
   ·rename_i e;subst e;exact⟨_,R',g',H',rfl,h2 _ _ hm,le,cW,e7,fr,oq⟩
   ·rename_i e;exact⟨_,R',g',H',rfl,h3 _ _ hm (fun R2 e2=>by cases e2;exact e rfl),le,cW,e7,fr,oq⟩
  case ret=>exact⟨_,R',g',H',rfl,h3 _ _ hm (by simp),le,cW,e7,fr,oq⟩
 | @loop x R H Q M _ h2 h3 om jh =>
  intro g w a n an top code r hc ht ck sr hr
  obtain⟨c,rfl,k1⟩:=rq hc
  have key:iK (Fw r) 0 P c (eI w0 n x.loop.ep a.defers (R n) g w H Q) a w:=by
   refine lW (wpIn_mono (om g w a n an top c r k1 ht ck sr hr).1 fun e a' w' hp=>?_)
   obtain⟨ex,R',g',H',e1,hm,le,cW,e7,fr,kY,oq⟩:=hp
   cases e<;>simp only[jt,Option.some.injEq,reduceCtorEq]at e1<;>subst e1
   case normal =>
    have:=(jh R' H' hm g' w' a' n an top (.loop c) r hc ht (ck.mono le) cW e7).2 c rfl
    intro b k cs h1 h2 h4
    obtain⟨e,a2,w2,hq,fM⟩:=this b k cs h1 h2 h4
    exact⟨e,a2,w2,hq.trans le fr kY fun e=>⟨e,oq e⟩,fM⟩
   case exit id=>exact⟨_,R',g',H',rfl,h3 _ _ hm (by simp),le,cW,e7,fr,kY,oq⟩
   case ret=>exact⟨_,R',g',H',rfl,h3 _ _ hm (by simp),le,cW,e7,fr,kY,oq⟩
  exact⟨pL key,fun body e=>by cases e;exact key⟩
 | @bw m x ps bh body R H Q f cs M hx _ h2 ih =>
  intro g w a n an top code r hc ht ck sr hr
  obtain⟨EW,qs,c,d,rfl,k1,k2,k3,k4,k5,rfl,k7,rfl⟩:=pO hc
  obtain rfl:=ht k4
  refine⟨wpIn_rangeFunc fun fn _=>?_,by rintro _⟨⟩⟩
  have hv:VR g w (.fn f cs) (a.eval EW):=by
   cases EW with
   | tmp u=>simp only[aj,Option.some.injEq]at k1;subst k1;simp only[X.ev]at hx;rw[←hx];exact hr.2 u (k5 u (by simp[bn]))
   | const v =>
    simp only[aj,Option.map_eq_some_iff]at k1
    obtain⟨u,h1,rfl⟩:=k1
    simp only[X.ev]at hx;subst hx
    exact eO h1
   | «global» _=>simp[aj]at k1
   | func f'=>simp only[aj,Option.some.injEq]at k1;subst k1;simp only[X.ev]at hx;cases hx;exact .fn rfl (by simp)
  generalize Iy:a.eval EW=vf at hv
  cases hv with
  | @fn _ _ vs hl kX =>
   obtain⟨g1,cP,zf,ES,Am⟩:=sr.qT (x:=.deferred (some [])) (y:=.lj) rfl (fun g' w' _ q1 q2 q3 r o q hq=>by rw[q2]at hq;cases hq;exact⟨q1,q3⟩)
   have b6:(w.alloc (.deferred (some []))).heap.size=w.heap.size+1:=by simp
   obtain⟨g2,vT,wU,wV,n8⟩:=zf.qT (x:=.loop { state:=.ready,pending:=none,fn,tmps:=a.tmps,params:=qs,assign:=c,body:=d,defers:=w.heap.size }) (y:=.loop .ready none m R qs.toList bh body) rfl
    (fun g' w' le q1 q2 q3 r o q hq=>by
     rw[q2]at hq;cases hq
     refine⟨q1,_,q3,rfl,rfl,rfl,hr.1,fun t ht=>((hr.2 t ht).mono cP).mono le,k7,?_,?_⟩
     ·rw[le.ck,cP.ck];exact(ck _ _ _).2 ⟨an,k2⟩
     ·rw[le.ck,cP.ck];exact(ck _ _ _).2 ⟨an,k3⟩)
   rw[b6]at n8
   have hlen:(H++[B.lj]).length=H.length+1:=by simp
   rw[hlen]at n8
   have EX:H++[B.lj]++[B.loop .ready none m R qs.toList bh body]=H++[.lj,.loop .ready none m R qs.toList bh body]:=by simp
   rw[EX]at wU wV
   have zw:=cP.trans vT
   have ot:ay g2 ((w.alloc (.deferred (some []))).alloc (.loop { state:=.ready,pending:=none,fn,tmps:=a.tmps,params:=qs,assign:=c,body:=d,defers:=w.heap.size })) (.gY (H.length+1) :: cs) (.func (.yield (w.heap.size+1)) #[] #[] :: vs.toList) :=
    ay.cons (.gY n8) ⟨by simp[hl],fun i t v ha hb=>(kX i t v ha (by simpa using hb)).mono zw⟩
   obtain⟨db,ry⟩:=ih g2 _ _ (ck.mono zw) wU ot
   refine⟨w.heap.size+1,[{ target:=.collected w.heap.size,args:=#[] }],((w.alloc (.deferred (some []))).alloc (.loop { state:=.ready,pending:=none,fn,tmps:=a.tmps,params:=qs,assign:=c,body:=d,defers:=w.heap.size })),{ target:=.fn (.func f) vs,args:=#[.func (.yield (w.heap.size+1)) #[] #[]] },((w.alloc (.deferred (some []))).alloc (.loop { state:=.ready,pending:=none,fn,tmps:=a.tmps,params:=qs,assign:=c,body:=d,defers:=w.heap.size })),f,#[.func (.yield (w.heap.size+1)) #[] #[]]++vs,((w.alloc (.deferred (some []))).alloc (.loop { state:=.ready,pending:=none,fn,tmps:=a.tmps,params:=qs,assign:=c,body:=d,defers:=w.heap.size })),run_enterLoop_outer _ _ _ _ _,?_,fun _ _=>trivial,?_,fun h=>by simp[Fw]at h,?_⟩
   ·simp only[resolve,Iy,Deferred.ofValue]
    simp[Act.eval]
   ·exact dZ db
   ·have e3:(.func (.yield (w.heap.size+1)) #[] #[] :: vs.toList:List Value).toArray=#[.func (.yield (w.heap.size+1)) #[] #[]]++vs:=by simp
    rw[e3]at ry
    refine ry.mono fun e w3 ⟨v,t,g3,H3,he,hM,mP,nH,_,pP⟩=>?_
    subst he
    obtain⟨st,bz,hI,Iz,Hc,hQ⟩:=h2 _ _ hM
    have He:=mP.φ _ _ n8
    obtain⟨j1,rec,j2,j3,j4,j5,j6,j7,j8,j9,Ha⟩:=nH.dy _ _ Hc _ _ _ He
    obtain⟨l3,oo,pQ⟩:=nH.kI (y':=.dead) (x':=.loop { rec with state:=.exhausted }) Hc He j1 j2 rfl rfl (fun _ _ _=>trivial)
    refine⟨_,_,run_endLoop j2 (by rw[j3];cases st<;>simp[qa.real]at hI ⊢),?_⟩
    generalize w3.putObj (w.heap.size+1) (.loop { rec with state:=.exhausted })=W4 at l3 oo ⊢
    rw[j4]
    have EY:=(zw.trans mP).trans l3
    have IA:Fr g H g3 (H3.set (H.length+1) .dead):=by
     have:=(ES.trans wV).trans (pP.trans pQ)
     exact this
    have post:∀e,jt e=some (kv bz)→eI w0 m (C.bw m x qs.toList bh body).ep a.defers (R m) g w H Q e { a with defers:=[{ target:=.collected w.heap.size,args:=#[] }]++a.defers } W4:=by
     intro e he
     refine⟨_,_,g3,_,he,hQ,EY,oo,⟨hr.1,fun t ht=>?_⟩,IA,fun hm=>?_,fun h=>by simp[C.ep]at h⟩
     ·simp only[jj];rw[if_neg (Nat.ne_of_lt ht)];exact(hr.2 t ht).mono EY
     ·obtain⟨ts,e1,e2⟩:=hm
      refine⟨.ptr H.length 0 :: ts,by simp[jj,e1,fC],.cons (((vT.trans mP).trans l3).φ _ _ Am) (e2.mono EY)⟩
    cases hp:bz with
    | none=>simp only[lp];exact post .normal (by rw[hp];rfl)
    | some e =>
     rcases ru (e:=e) (by rintro rfl;exact Iz hp)with⟨id,rfl,e5⟩|⟨rfl,e5⟩
     ·simp only[e5];exact wpIn_exit (post (.exit id) (by rw[hp];rfl))
     ·simp only[e5];exact wpIn_ret (post .ret (by rw[hp];rfl))
 | @nil R H Q h =>
  refine⟨fun g0 ws H0 g w a n ops mu is r hc ck sr hr le fr=>?_,fun n ops mu df mk g0 ws H0 pre L g a w ord dL r fuel ck h1 h2 hd hl=>?_⟩
  ·obtain rfl:=lY hc
   exact⟨.normal,R,g,H,rfl,h,le,sr,hr,fr,rfl,rfl⟩
  ·have ey:=aW ord pre dL h1
   cases dL with
   | cons _ _=>simp at h2
   | nil=>exact pM (by simpa using ey) h fuel L g a w hl hd
 | @no o l R H Q hg _ ih =>
  refine⟨fun g0 ws H0 g w a n ops mu is r hc ck sr hr le fr=>?_,fun n ops mu df mk g0 ws H0 pre L g a w ord dL r fuel ck h1 h2 hd hl=>?_⟩
  ·obtain⟨i,jg,oper,rfl,ho,bM,bR⟩:=bg hc
   rw[wpOpsIn_cons]
   refine oj ho bM hr.1 (hr.rg (fR bM)) hg ?_
   have:=ih.1 g0 ws H0 g w (a.put o.d undef) n ops mu jg r bR ck sr (hr.put (by obtain⟨_,_,_,_,e,_,h5⟩:=ar bM;rw[e];exact h5) (.refl _ _) da) le fr
   rwa[dc,aP (bZ bM)]at this
  ·obtain⟨x,l',bT,oper,rfl,rfl,h3,hh,h4⟩:=cC h1 h2
   cases he:x.early with
   | true=>exact ih.2 n ops mu df mk g0 ws H0 _ L g a w bT l' r fuel ck h4 h3 (hd.vQ hh he hg) hl
   | false =>
    refine bG (Tl:=fun R' H'=>R'=aA R x.o.d aw∧H'=H) hh he (aW ord pre _ h1) (bf bT _ l' h4) ?_ ?_ fuel L g a w hl hd
    ·rintro R' H'⟨rfl,rfl⟩ fuel L' g' a' w' hL fw
     exact ih.2 n ops mu df mk g0 ws H0 _ L' g' a' w' bT l' r fuel (mQ hd fw ck) h4 h3 fw hL
    ·intro L g a w hd hp K hK
     exact oj hh.ho hh.co hd.kK (hd.bH hh hp) hg (hK _ _ g _ w ⟨rfl,rfl⟩ (hd.both hh he hp (.refl _ _) hd.sr da (.refl _ _) fun _ _ _ _ _ _ _ _ _ e=>e))
 | @op d b gd s l R H Q v H' hg hv hs _ ih =>
  refine⟨fun g0 ws H0 g w a n ops mu is r hc ck sr hr le fr=>?_,fun n ops mu df mk g0 ws H0 pre L g a w ord dL r fuel ck h1 h2 hd hl=>?_⟩
  ·obtain⟨i,jg,oper,rfl,ho,bM,bR⟩:=bg hc
   rw[wpOpsIn_cons]
   obtain⟨u,w',g',bJ,eu,cW,bS,gL⟩:=kM (r:=r) ho bM hr.1 (hr.rg (fR bM)) hg sr hv
   refine bJ _ _ ?_
   have:=ih.1 g0 ws H0 g' w' (a.put d u) n ops mu jg r bR (ck.mono eu) cW (hr.put (by obtain⟨_,_,_,_,e,_,h5⟩:=ar bM;cases e;exact h5) eu bS) (le.trans eu) (fr.trans gL)
   rwa[dc,aP (bZ bM)]at this
  ·obtain⟨x,l',bT,oper,rfl,eV,h3,hh,h4⟩:=cC h1 h2
   have ou:x.o.d=d:=by rw[eV]
   cases he:x.early with
   | true =>
    have:=hd.vR hh he (b:=b) (by rw[eV]) (by rw[eV];exact hg) hv
    rw[ou]at this
    exact ih.2 n ops mu df mk g0 ws H0 _ L g a w bT l' r fuel ck h4 h3 this hl
   | false =>
    refine bG (Tl:=fun R' H2=>R'=aA R d v∧H2=H') hh he (aW ord pre _ h1) (bf bT _ l' h4) ?_ ?_ fuel L g a w hl hd
    ·rintro R' H'⟨rfl,rfl⟩ fuel L' g' a' w' hL fw
     exact ih.2 n ops mu df mk g0 ws H0 _ L' g' a' w' bT l' r fuel (mQ hd fw ck) h4 h3 fw hL
    ·intro L2 g2 a2 w2 dj hp K hK
     have vV:b8 P g2:=mQ hd dj ck
     have bM:=hh.co
     have iP:=dj.bH hh hp
     have hI:=dj.stays hh he hp (H':=H') (by rw[eV];exact hs)
     rw[eV]at bM iP
     obtain⟨u,w',g',bJ,eu,cW,bS,gL⟩:=kM (r:=r) hh.ho bM dj.kK iP hg dj.sr hv
     refine bJ _ _ (hK _ _ g' _ w' ⟨rfl,rfl⟩ ?_)
     have:=dj.both hh he hp eu cW bS gL hI
     rwa[ou]at this
 | @DB d nn bytes yy gd s l R H Q b len cs v H' t hg ht hb hlen h0 hv hs _ ih =>
  refine⟨fun g0 ws H0 g w a n ops mu is r hc ck sr hr le fr=>?_,fun n ops mu df mk g0 ws H0 pre L g a w ord dL r fuel ck h1 h2 hd hl=>?_⟩
  ·obtain⟨i,jg,oper,rfl,ho,bM,bR⟩:=bg hc
   rw[wpOpsIn_cons]
   obtain⟨u,w',g',bJ,eu,cW,bS,gL⟩:=l4 (r:=r) ho bM hr.1 (hr.rg (fR bM)) hg sr ht hb hlen h0 hv
   refine bJ _ _ ?_
   have:=ih.1 g0 ws H0 g' w' (a.put d u) n ops mu jg r bR (ck.mono eu) cW (hr.put (by obtain⟨_,_,_,_,e,_,h5⟩:=ar bM;cases e;exact h5) eu bS) (le.trans eu) (fr.trans gL)
   rwa[dc,aP (bZ bM)]at this
  ·obtain⟨x,l',bT,oper,rfl,eV,h3,hh,h4⟩:=cC h1 h2
   have ou:x.o.d=d:=by rw[eV]
   cases he:x.early with
   | true =>
    have:=(hh.kl he).1
    rw[eV]at this
    exact absurd (by cases d<;>rfl) this
   | false =>
    refine bG (Tl:=fun R' H2=>R'=aA R d v∧H2=H') hh he (aW ord pre _ h1) (bf bT _ l' h4) ?_ ?_ fuel L g a w hl hd
    ·rintro R' H'⟨rfl,rfl⟩ fuel L' g' a' w' hL fw
     exact ih.2 n ops mu df mk g0 ws H0 _ L' g' a' w' bT l' r fuel (mQ hd fw ck) h4 h3 fw hL
    ·intro L2 g2 a2 w2 dj hp K hK
     have vV:b8 P g2:=mQ hd dj ck
     have bM:=hh.co
     have iP:=dj.bH hh hp
     have hI:=dj.stays hh he hp (H':=H') (by rw[eV];exact hs)
     rw[eV]at bM iP
     obtain⟨u,w',g',bJ,eu,cW,bS,gL⟩:=l4 (r:=r) hh.ho bM dj.kK iP hg dj.sr ht hb hlen h0 hv
     refine bJ _ _ (hK _ _ g' _ w' ⟨rfl,rfl⟩ ?_)
     have:=dj.both hh he hp eu cW bS gL hI
     rwa[ou]at this
 | @call d f aq gd s l R H Q M hg _ hs h2 om jh =>
  refine⟨fun g0 ws H0 g w a n ops mu is r hc ck sr hr le fr=>?_,fun n ops mu df mk g0 ws H0 pre L g a w ord dL r fuel ck h1 h2 hd hl=>?_⟩
  ·obtain⟨i,jg,oper,rfl,ho,bM,bR⟩:=bg hc
   rw[wpOpsIn_cons]
   refine jT (r:=r) ho bM hr.1 (hr.rg (fR bM)) hg (fun args hv=>om g w args ck sr hv) fun u w' g' H' t hM eu cW bS gL=>?_
   have:=(jh t H' hM).1 g0 ws H0 g' w' (a.put d u) n ops mu jg r bR (ck.mono eu) cW (hr.put (by obtain⟨_,_,_,_,e,_,h5⟩:=ar bM;cases e;exact h5) eu bS) (le.trans eu) (fr.trans gL)
   rwa[dc,aP (bZ bM)]at this
  ·obtain⟨x,l',bT,oper,rfl,eV,h3,hh,h4⟩:=cC h1 h2
   have ou:x.o.d=d:=by rw[eV]
   cases he:x.early with
   | true=>exact absurd (by rw[eV];rfl) (hh.kl he).1
   | false =>
    refine bG (Tl:=fun R' H2=>∃v,M (.val v) H2∧R'=aA R d v) hh he (aW ord pre _ h1) (bf bT _ l' h4) ?_ ?_ fuel L g a w hl hd
    ·rintro R' H'⟨v,hM,rfl⟩ fuel L' g' a' w' hL fw
     exact(jh v H' hM).2 n ops mu df mk g0 ws H0 _ L' g' a' w' bT l' r fuel (mQ hd fw ck) h4 h3 fw hL
    ·intro L2 g2 a2 w2 dj hp K hK
     have vV:b8 P g2:=mQ hd dj ck
     have bM:=hh.co
     have iP:=dj.bH hh hp
     rw[eV]at bM iP
     refine jT (r:=r) hh.ho bM dj.kK iP hg (fun args hv=>om g2 w2 args vV dj.sr hv) fun u w' g' H' t hM eu cW bS gL=>hK _ H' g' _ w' ⟨t,hM,rfl⟩ ?_
     have hI:=dj.stays hh he hp (H':=H') (by rw[eV];exact hs t H' hM)
     have:=dj.both hh he hp eu cW bS gL hI
     rwa[ou]at this
 | @bl d xx f cs aq gd s l R H Q M hg hf _ hs h2 om jh =>
  refine⟨fun g0 ws H0 g w a n ops mu is r hc ck sr hr le fr=>?_,fun n ops mu df mk g0 ws H0 pre L g a w ord dL r fuel ck h1 h2 hd hl=>?_⟩
  ·obtain⟨i,jg,oper,rfl,ho,bM,bR⟩:=bg hc
   rw[wpOpsIn_cons]
   refine iL (r:=r) ho bM hr.1 (hr.rg (fR bM)) hg hf (fun args hv=>om g w args ck sr hv) fun u w' g' H' t hM eu cW bS gL=>?_
   have:=(jh t H' hM).1 g0 ws H0 g' w' (a.put d u) n ops mu jg r bR (ck.mono eu) cW (hr.put (by obtain⟨_,_,_,_,e,_,h5⟩:=ar bM;cases e;exact h5) eu bS) (le.trans eu) (fr.trans gL)
   rwa[dc,aP (bZ bM)]at this
  ·obtain⟨x,l',bT,oper,rfl,eV,h3,hh,h4⟩:=cC h1 h2
   have ou:x.o.d=d:=by rw[eV]
   cases he:x.early with
   | true=>exact absurd (by rw[eV];rfl) (hh.kl he).1
   | false =>
    refine bG (Tl:=fun R' H2=>∃v,M (.val v) H2∧R'=aA R d v) hh he (aW ord pre _ h1) (bf bT _ l' h4) ?_ ?_ fuel L g a w hl hd
    ·rintro R' H'⟨v,hM,rfl⟩ fuel L' g' a' w' hL fw
     exact(jh v H' hM).2 n ops mu df mk g0 ws H0 _ L' g' a' w' bT l' r fuel (mQ hd fw ck) h4 h3 fw hL
    ·intro L2 g2 a2 w2 dj hp K hK
     have vV:b8 P g2:=mQ hd dj ck
     have bM:=hh.co
     have iP:=dj.bH hh hp
     rw[eV]at bM iP
     refine iL (r:=r) hh.ho bM dj.kK iP hg hf (fun args hv=>om g2 w2 args vV dj.sr hv) fun u w' g' H' t hM eu cW bS gL=>hK _ H' g' _ w' ⟨t,hM,rfl⟩ ?_
     have hI:=dj.stays hh he hp (H':=H') (by rw[eV];exact hs t H' hM)
     have:=dj.both hh he hp eu cW bS gL hI
     rwa[ou]at this
 | @gY d xx b aq gd s l R H Q m R0 ps bh body M1 M hg hf hb hn _ qi _ mU Dy _ Dz _ om jh DV DW =>
  refine⟨fun g0 ws H0 g w a n ops mu is r hc ck sr hr le fr=>?_,fun n ops mu df mk g0 ws H0 pre L g a w ord dL r fuel ck h1 h2 hd hl=>?_⟩
  ·obtain⟨i,jg,oper,rfl,ho,bM,bR⟩:=bg hc
   rw[wpOpsIn_cons]
   refine l0 (r:=r) ho bM hr.1 (hr.rg (fR bM)) hg hf hb hn ck sr om qi jh mU fun u w' g' H' t nf eu cW bS gL=>?_
   have Bd:=hr.put (d:=d) (by obtain⟨_,_,_,_,e,_,h5⟩:=ar bM;cases e;exact h5) eu bS
   rcases nf with⟨R',H2,hM,rfl,rfl⟩|⟨e,R',H2,hM,aF,rfl,rfl⟩
   ·have:=(DV R' H2 hM).1 g0 ws H0 g' w' (a.put d u) n ops mu jg r bR (ck.mono eu) cW Bd (le.trans eu) (fr.trans gL)
    rwa[dc,aP (bZ bM)]at this
   ·have:=(DW e R' H2 hM aF).1 g0 ws H0 g' w' (a.put d u) n ops mu jg r bR (ck.mono eu) cW Bd (le.trans eu) (fr.trans gL)
    rwa[dc,aP (bZ bM)]at this
  ·obtain⟨x,l',bT,oper,rfl,eV,h3,hh,h4⟩:=cC h1 h2
   have ou:x.o.d=d:=by rw[eV]
   cases he:x.early with
   | true=>exact absurd (by rw[eV];rfl) (hh.kl he).1
   | false =>
    refine bG (Tl:=fun R' H'=>(∃R2 H2,M (.ex .normal R2) H2∧R'=aA R d (.bool true)∧H'=H2.set b (.loop .ready none m R0 ps bh body))∨(∃e R2 H2,M (.ex e R2) H2∧e≠.normal∧R'=aA R d (.bool false)∧H'=H2.set b (.loop .done (some e) m R0 ps bh body)))
     hh he (aW ord pre _ h1) (bf bT _ l' h4) ?_ ?_ fuel L g a w hl hd
    ·rintro R' H' (⟨R2,H2,hM,rfl,rfl⟩|⟨e,R2,H2,hM,aF,rfl,rfl⟩) fuel L' g' a' w' hL fw
     ·exact(DV R2 H2 hM).2 n ops mu df mk g0 ws H0 _ L' g' a' w' bT l' r fuel (mQ hd fw ck) h4 h3 fw hL
     ·exact(DW e R2 H2 hM aF).2 n ops mu df mk g0 ws H0 _ L' g' a' w' bT l' r fuel (mQ hd fw ck) h4 h3 fw hL
    ·intro L2 g2 a2 w2 dj hp K hK
     have vV:b8 P g2:=mQ hd dj ck
     have bM:=hh.co
     have iP:=dj.bH hh hp
     rw[eV]at bM iP
     refine l0 (r:=r) hh.ho bM dj.kK iP hg hf hb hn vV dj.sr om qi jh mU fun u w' g' H' t nf eu cW bS gL=>?_
     have yO:∀(hs:cH R H' s),Dr P n ops mu w0 df mk g0 ws H0 (pre++[x]) (L2.setIfInBounds x.i true) g' (aA R d t) H' (a2.put d u) w':=fun hs=>by
      have hI:=dj.stays hh he hp (H':=H') (by rw[eV];exact hs)
      have:=dj.both hh he hp eu cW bS gL hI
      rwa[ou]at this
     rcases nf with⟨R',H2,hM,rfl,rfl⟩|⟨e,R',H2,hM,aF,rfl,rfl⟩
     ·exact hK _ _ g' _ w' (.inl ⟨R',H2,hM,rfl,rfl⟩) (yO (Dy R' H2 hM))
     ·exact hK _ _ g' _ w' (.inr ⟨e,R',H2,hM,aF,rfl,rfl⟩) (yO (Dz e R' H2 hM aF))
 | @qh d neg c xx yy s l R H Q hs _ hx hy hc ih =>
  subst hc
  subst hs
  refine⟨fun g0 ws H0 g w a n ops mu is r hc ck sr hr le fr=>?_,fun n ops mu df mk g0 ws H0 pre L g a w ord dL r fuel ck h1 h2 hd hl=>?_⟩
  ·obtain⟨i,jg,oper,rfl,ho,bM,bR⟩:=bg hc
   rw[wpOpsIn_cons]
   obtain⟨b,bJ⟩:=jS (r:=r) ho bM hr.1 (hr.rg (fR bM)) rfl hx hy
   refine bJ _ _ ?_
   have:=(ih b).1 g0 ws H0 g w (a.put d (.bool b)) n ops mu jg r bR ck sr (hr.put (by obtain⟨_,_,_,_,e,_,h5⟩:=ar bM;cases e;exact h5) (.refl _ _) (.bool b)) le fr
   rwa[dc,aP (bZ bM)]at this
  ·obtain⟨x,l',bT,oper,rfl,eV,h3,hh,h4⟩:=cC h1 h2
   have ou:x.o.d=d:=by rw[eV]
   cases he:x.early with
   | true =>
    have:=(hh.kl he).1
    rw[eV]at this
    exact absurd (by cases d<;>rfl) this
   | false =>
    refine bG (Tl:=fun R' H2=>∃b:Bool,R'=aA R d (.bool b)∧H2=H) hh he (aW ord pre _ h1) (bf bT _ l' h4) ?_ ?_ fuel L g a w hl hd
    ·rintro R' H'⟨b,rfl,rfl⟩ fuel L' g' a' w' hL fw
     exact(ih b).2 n ops mu df mk g0 ws H0 _ L' g' a' w' bT l' r fuel (mQ hd fw ck) h4 h3 fw hL
    ·intro L2 g2 a2 w2 dj hp K hK
     have vV:b8 P g2:=mQ hd dj ck
     have bM:=hh.co
     have iP:=dj.bH hh hp
     rw[eV]at bM iP
     obtain⟨b,bJ⟩:=jS (r:=r) hh.ho bM dj.kK iP rfl hx hy
     refine bJ _ _ (hK _ H g2 _ w2 ⟨b,rfl,rfl⟩ ?_)
     have:=dj.both hh he hp (.refl _ _) dj.sr (.bool b) (.refl _ _) fun _ _ _ _ _ _ _ _ _ e=>e
     rwa[ou]at this
 | @hU d xx gd s l R H Q b bi es ix cur hg hx hb hs _ ih =>
  refine⟨fun g0 ws H0 g w a n ops mu is r hc ck sr hr le fr=>?_,fun n ops mu df mk g0 ws H0 pre L g a w ord dL r fuel ck h1 h2 hd hl=>?_⟩
  ·obtain⟨i,jg,oper,rfl,ho,bM,bR⟩:=bg hc
   rw[wpOpsIn_cons]
   obtain⟨t,H',u,w',g',hM,bJ,eu,cW,bS,gL⟩:=lX (r:=r) ho bM hr.1 (hr.rg (fR bM)) hg sr hx hb
   refine bJ _ _ ?_
   have:=(ih t H' hM).1 g0 ws H0 g' w' (a.put d u) n ops mu jg r bR (ck.mono eu) cW (hr.put (by obtain⟨_,_,_,_,e,_,h5⟩:=ar bM;cases e;exact h5) eu bS) (le.trans eu) (fr.trans gL)
   rwa[dc,aP (bZ bM)]at this
  ·obtain⟨x,l',bT,oper,rfl,eV,h3,hh,h4⟩:=cC h1 h2
   have ou:x.o.d=d:=by rw[eV]
   cases he:x.early with
   | true =>
    have:=(hh.kl he).1
    rw[eV]at this
    exact absurd (by cases d<;>rfl) this
   | false =>
    refine bG (Tl:=fun R' H2=>∃v,fE H b bi es ix v H2∧R'=aA R d v) hh he (aW ord pre _ h1) (bf bT _ l' h4) ?_ ?_ fuel L g a w hl hd
    ·rintro R' H'⟨v,hM,rfl⟩ fuel L' g' a' w' hL fw
     exact(ih v H' hM).2 n ops mu df mk g0 ws H0 _ L' g' a' w' bT l' r fuel (mQ hd fw ck) h4 h3 fw hL
    ·intro L2 g2 a2 w2 dj hp K hK
     have vV:b8 P g2:=mQ hd dj ck
     have bM:=hh.co
     have iP:=dj.bH hh hp
     rw[eV]at bM iP
     obtain⟨t,H',u,w',g',hM,bJ,eu,cW,bS,gL⟩:=lX (r:=r) hh.ho bM dj.kK iP hg dj.sr hx hb
     refine bJ _ _ (hK _ H' g' _ w' ⟨t,hM,rfl⟩ ?_)
     have hI:=dj.stays hh he hp (H':=H') (by rw[eV];exact hs t H' hM)
     have:=dj.both hh he hp eu cW bS gL hI
     rwa[ou]at this
 | @shr f aq H Q M _ h2 ih =>
  intro g w args ck sr hv
  obtain⟨db,hc⟩:=ih g w args ck sr hv
  refine⟨db,hc.mono fun e w3 ⟨v,t,g3,H3,he,hM,mP,nH,bS,pP⟩=>?_⟩
  obtain⟨t',b,cs,k,ht,jl,hb,hq⟩:=h2 _ _ hM
  cases ht
  have hφ:∃x,g3.φ b=some x:=by
   cases bS with
   | aQ h=>simp only[hZ]at jl;subst jl;exact⟨_,h⟩
   | bo hl h2 =>
    obtain⟨off,len,n,hm⟩:=jl
    obtain⟨i,hi⟩:=List.mem_iff_getElem?.1 hm
    have aD:=(List.getElem?_eq_some_iff.1 hi).1
    obtain⟨u,hu⟩:∃u,(Array.mk _)[i]?=some u:=⟨_,Array.getElem?_eq_getElem (Nat.lt_of_lt_of_eq aD hl.symm)⟩
    have:=h2 i _ _ hi hu
    cases this with
    | aQ h=>exact⟨_,h⟩
   | _=>exact jl.elim
  obtain⟨oo,pQ⟩:=nH.shrink k hb hφ
  exact⟨v,_,g3,_,he,hq,mP,oo,bS,pP.trans pQ⟩
 | @DA f aq H Q fn M hf hn _ h2 ih =>
  intro g w args ck sr hv
  obtain⟨an,kZ⟩:=hE.fn f fn hf
  obtain⟨F,code,res,body,hF,hb,gS,kF,db,b6,aD,rfl⟩:=iR kZ
  refine⟨db,callsIn_of_wp_marks hF hb trivial ?_⟩
  have zx:=iS (F:=F) hv hn b6
  refine wpIn_mono (ih g w _ F.ntmps an true code none kF (fun _=>rfl) ck sr zx).1 fun e a' w' rz=>?_
  obtain⟨ex,R',g',H',e1,hm,le,cW,e7,fr,kY,_⟩:=rz
  obtain⟨R2,bs,hex,Ba,jJ,vU,v0,zy,hq⟩:=h2 _ _ hm
  have EZ:Mk g (dp aq F.ntmps) []:=⟨[],by simp only[dp];rw[List.getD_eq_getElem?_getD,List.getElem?_eq_none (by simp only at hn;omega)];rfl,.nil⟩
  obtain⟨ts,p8,IB⟩:=kY EZ
  have rA:R2=R'→LeavesInM (Fw none) 0 P F a'.tmps (iJ w0 g w H fun v H'=>Q (.val v) H') a'.defers .returning w':=by
   rintro rfl
   simp only at Ba hq zy
   rw[p8]at Ba
   refine kN ts a'.defers bs g' H' w' R2 a' _ IB Ba jJ vU cW e7 (fun w2 v vT wU _ wV _ bS=>⟨v,_,g',_,rfl,hq,le.trans vT,wU,bS,fr.trans wV⟩) zy fun g w H sr hr ht=>iQ (P:=P) sr gS aD hr ht
  cases e<;>simp only[jt,Option.some.injEq,reduceCtorEq]at e1<;>subst e1
  case normal=>rcases hex with hex|hex<;>cases hex;exact rA rfl
  case exit id=>rcases hex with hex|hex<;>cases hex
  case ret=>rcases hex with hex|hex<;>cases hex;exact rA rfl
 | @fn f aq H Q fn M hf IC hn _ h2 ih =>
  intro g w args ck sr hv
  obtain⟨an,kZ⟩:=hE.fn f fn hf
  obtain⟨F,code,res,body,hF,hb,gS,kF,db,b6,aD,rfl⟩:=iR kZ
  refine⟨db,callsIn_of_wp hF hb trivial ?_⟩
  have zx:=iS (F:=F) hv hn b6
  refine wpIn_mono (ih g w _ F.ntmps an true code none kF (fun _=>rfl) ck sr zx).1 fun e a' w' rz=>?_
  obtain⟨ex,R',g',H',e1,hm,le,cW,e7,fr,_,oq⟩:=rz
  obtain⟨R2,hex,v0,zy,hq⟩:=h2 _ _ hm
  have rA:∀(R2:ai),R2=R'→fD R2 H' res=some v0→a'.defers=[]∧∃v,(results F a'.tmps).run P w'=.ok v w'∧iJ w0 g w H (fun v H'=>Q (.val v) H') (.returned v) w':=by
   rintro R2 rfl zy
   obtain⟨v,aJ,bS⟩:=iQ (P:=P) cW gS aD e7 zy
   exact⟨(oq IC).2,v,aJ,v,_,g',H',rfl,hq,le,cW,bS,fr⟩
  cases e<;>simp only[jt,Option.some.injEq,reduceCtorEq]at e1<;>subst e1
  case normal=>rcases hex with hex|hex<;>cases hex;exact rA _ rfl zy
  case exit id=>rcases hex with hex|hex<;>cases hex
  case ret=>rcases hex with hex|hex<;>cases hex;exact rA _ rfl zy
 | @yH f aq H Q b off len n i M hi _ h2 ih =>
  intro g w args ck sr hv
  have aD:=(List.getElem?_eq_some_iff.1 hi).1
  have hl:=hv.1
  have wW:=hv.2 i _ _ hi (List.getElem?_eq_getElem (by omega))
  have hex:∃c,len≤c∧VR g w (.bU b off len n c) (args[i]'(by omega)):=by
   generalize args[i]'(by omega)=u at wW
   cases wW with
   | aQ h hc hq=>exact⟨_,hc,.bU h hc hq⟩
  obtain⟨c,hc,n7⟩:=hex
  have pB:ay g w (aq.set i (.bU b off len n c)) args:=⟨by simp[hl],fun j t v ha hb=>by
   by_cases e:j=i
   ·subst e
    rw[List.getElem?_set_self aD]at ha
    cases ha
    rw[List.getElem?_eq_getElem (by omega)]at hb
    cases hb
    exact n7
   ·rw[List.getElem?_set_ne (Ne.symm e)]at ha
    exact hv.2 j t v ha hb⟩
  obtain⟨db,kF⟩:=ih c hc g w args ck sr pB
  refine⟨db,kF.mono fun e w3 ⟨v,t,g3,H3,he,hM,mP,nH,bS,pP⟩=>?_⟩
  exact⟨v,_,g3,H3,he,h2 _ _ hM,mP,nH,bS.Aa,pP⟩
 | @p0 f aq H Q M _ h2 ih =>
  intro g w args ck sr hv
  obtain⟨db,hc⟩:=ih g w args ck sr hv
  refine⟨db,hc.mono fun e w3 ⟨v,t,g3,H3,he,hM,mP,nH,bS,pP⟩=>?_⟩
  obtain⟨t',b,cs,ht,jl,hb,hq⟩:=h2 _ _ hM
  cases ht
  have hφ:∃x,g3.φ b=some x:=by
   cases bS with
   | aQ h=>simp only[hZ]at jl;subst jl;exact⟨_,h⟩
   | bo hl h2 =>
    obtain⟨off,len,n,hm⟩:=jl
    obtain⟨i,hi⟩:=List.mem_iff_getElem?.1 hm
    have aD:=(List.getElem?_eq_some_iff.1 hi).1
    obtain⟨u,hu⟩:∃u,(Array.mk _)[i]?=some u:=⟨_,Array.getElem?_eq_getElem (Nat.lt_of_lt_of_eq aD hl.symm)⟩
    have:=h2 i _ _ hi hu
    cases this with
    | aQ h=>exact⟨_,h⟩
   | _=>exact jl.elim
  obtain⟨g4,l3,oo,pQ,rv⟩:=nH.freeze hb hφ
  exact⟨v,_,g4,_,he,hq,mP.trans l3,oo,rv _ _ bS,pP.trans pQ⟩
 | @yI f aq H Q b off len n cs i hi hb _ ih =>
  intro g w args ck sr hv
  have aD:=(List.getElem?_eq_some_iff.1 hi).1
  have hl:=hv.1
  have wW:=hv.2 i _ _ hi (List.getElem?_eq_getElem (by omega))
  have hφ:∃x,g.φ b=some x:=by
   generalize args[i]'(by omega)=u at wW
   cases wW with
   | aQ h=>exact⟨_,h⟩
  obtain⟨g4,l3,oo,pQ,rv⟩:=sr.freeze hb hφ
  have pB:ay g4 w (aq.map (mT b cs)) args:=⟨by simp[hl],fun j t v ha cY=>by
   rw[List.getElem?_map]at ha
   obtain⟨t0,h0,rfl⟩:=Option.map_eq_some_iff.1 ha
   exact rv _ _ (hv.2 j t0 v h0 cY)⟩
  obtain⟨db,hc⟩:=ih g4 w args (ck.mono l3) oo pB
  exact⟨db,hc.mono fun e w3 ⟨v,t,g3,H3,he,hM,mP,nH,bS,pP⟩=>⟨v,t,g3,H3,he,hM,l3.trans mP,nH,bS,pQ.trans pP⟩⟩
 | @D7 f aq H Q b cs hk hb _ ih =>
  intro g w args ck sr hv
  have hφ:∃x,g.φ b=some x:=by
   obtain⟨i,b',off,len,n,hi,hk⟩:=hk
   have aD:=(List.getElem?_eq_some_iff.1 hi).1
   have hl:=hv.1
   have wW:=hv.2 i _ _ hi (List.getElem?_eq_getElem (by omega))
   generalize args[i]'(by omega)=u at wW
   cases wW with
   | @aQ _ _ _ _ r o q cap h0 =>
    rcases hk with rfl|⟨H6,j,yF,yG,n',cY,hc⟩
    ·exact⟨_,h0⟩
    ·have n7:∃v,VR g w (.aQ b yF yG n') v:=by
      rcases cY with cY|cY
      ·obtain⟨_,v,_,pB⟩:=(sr.dy _ _ cY r o q h0).2.2 j _ hc
       exact⟨v,pB⟩
      ·obtain⟨_,v,_,pB⟩:=(sr.dy _ _ cY r o q h0).2 j _ hc
       exact⟨v,pB⟩
     obtain⟨v,n7⟩:=n7
     cases n7 with
     | aQ h=>exact⟨_,h⟩
  obtain⟨g4,l3,oo,pQ⟩:=sr.vE hb hφ
  obtain⟨db,hc⟩:=ih g4 w args (ck.mono l3) oo (hv.mono l3)
  exact⟨db,hc.mono fun e w3 ⟨v,t,g3,H3,he,hM,mP,nH,bS,pP⟩=>⟨v,t,g3,H3,he,hM,l3.trans mP,nH,bS,pQ.trans pP⟩⟩
 | @vw f aq yJ H Q hl ID _ ih =>
  intro g w args ck sr hv
  exact ih g w args ck sr ⟨hl.trans hv.1,fun j t v ha cY=>by
   have aD:=(List.getElem?_eq_some_iff.1 ha).1
   exact(ID j _ t (List.getElem?_eq_getElem (by omega)) ha).ok sr v (hv.2 j _ v (List.getElem?_eq_getElem (by omega)) cY)⟩
 | @fY f aq H Q h =>
  intro g w args ck sr hv
  exact hE.fY f aq H _ h g w args sr hv
inductive Sh where
 | int (k:IntKind)|str|bool
 | sl (l:List Sh)
 | ag (l:List Sh)
def pR (P:Program)(f:TypeId→Option (List Sh)):List Field→Nat→Option (List Sh)
 | [],_=>some []
 | x :: xs,off=>match f x.type with
  | some l=>if x.offset=off∧l.length=P.cellsOf x.type then(pR P f xs (off+l.length)).map (l++·)else none
  | none=>none
def oA (k:Nat)(e:TypeId)(c:Nat):List Field:=(List.range k).map fun i=>{ (default:Field)with type:=e,offset:=i*c }
def ju (P:Program):Nat→TypeId→Option (List Sh)
 | 0,_=>none
 | n+1,t=>match P.underlying t with
  | some .bool=>some [.bool]
  | some (.int k)=>some [.int k]
  | some .string=>some [.str]
  | some (.slice e)=>match ju P n e with
   | some l=>if l.length=P.cellsOf e∧l.length≠0 then some [.sl l]else none
   | none=>none
  | some (.struct fs)=>match pR P (ju P n) fs.toList 0 with
   | some l=>if l.length=P.cellsOf t then some l else none
   | none=>none
  | some (.array k e)=>match pR P (ju P n) (oA k e (P.cellsOf e)) 0 with
   | some l=>if l.length=P.cellsOf t then some l else none
   | none=>none
  | _=>none
inductive cD (B:Nat):Sh→T→Prop
 | int {k n} (h:(Lit.int k n).wf=true):cD B (.int k) (.int k n)
 | bool (b):cD B .bool (.bool b)
 | str {s:ByteArray} (h:s.size≤maxLen) (hB:s.size≤B):cD B .str (.str s)
 | nil {l}:cD B (.sl l) (.sl .nil [])
 | sl {l es} (hl:es.length≤maxLen) (hB:es.length≤B) (h0:∀c∈es,c.length=l.length) (h:∀c∈es,∀(j:Nat) (s:Sh) (t:T),l[j]?=some s→c[j]?=some t→cD B s t):cD B (.sl l) (.sl .arg es)
 | ag {l cs} (hl:cs.length=l.length) (h:∀(j:Nat) (s:Sh) (t:T),l[j]?=some s→cs[j]?=some t→cD B s t):cD B (.ag l) (.agg cs)
mutual
def T.bk:T→Nat
 | .str s=>s.size+1
 | .sl _ es=>Ao es+1
 | _=>1
def ji:List T→Nat
 | []=>0
 | t :: ts=>t.bk+ji ts
def Ao:List (List T)→Nat
 | []=>0
 | c :: es=>ji c+Ao es
end
theorem vW (a b:List T):ji (a++b)=ji a+ji b:=by
 induction a with
 | nil=>simp[ji]
 | cons t a ih=>simp only[List.cons_append,ji,ih];omega
mutual
def a6 {H:Type}:DataW H→Nat
 | .lit (.string bytes)=>bytes.length+1
 | .lit _=>1
 | .nil=>1
 | .ptr d=>a6 d+1
 | .slice elems spare=>aK elems+aK spare+1
 | .agg parts=>aK parts+1
 | .iface _ d=>a6 d+1
 | .map entries=>fS entries+1
 | .held _=>1
def aK {H:Type}:List (DataW H)→Nat
 | []=>0
 | d :: r=>a6 d+aK r
def fS {H:Type}:List (Lit×DataW H)→Nat
 | []=>0
 | x :: r=>nI x+fS r
def nI {H:Type}:Lit×DataW H→Nat
 | (.string bytes,d)=>bytes.length+a6 d+1
 | (_,d)=>a6 d+1
end
theorem eK {H:Type}(d:DataW H):1≤a6 d:=by
 cases d with
 | lit l=>cases l<;>simp[a6]
 | _=>simp[a6]
theorem gy {H:Type}{d:DataW H}{l:List (DataW H)}(h:d∈l):a6 d≤aK l:=by
 induction l with
 | nil=>cases h
 | cons x r ih =>
  simp only[aK]
  rcases List.mem_cons.1 h with rfl|h
  ·omega
  ·have:=ih h;omega
theorem rB {H:Type}:∀(es:List (List T)) (ds:List (DataW H)),es.length≤ds.length→(∀(i:Nat) c d,es[i]?=some c→ds[i]?=some d→ji c≤a6 d)→Ao es≤aK ds
 | [],_,_,_=>by simp[Ao]
 | c :: es,[],h,_=>by simp at h
 | c :: es,d :: ds,h,hk=>by
  have h1:=hk 0 c d rfl rfl
  have h2:=rB es ds (by simpa using h) fun i c d a b=>hk (i+1) c d (by simpa using a) (by simpa using b)
  simp only[Ao,aK];omega
theorem rC {H:Type}(l:List (DataW H)):l.length≤aK l:=by
 induction l with
 | nil=>simp
 | cons x r ih=>have:=eK x;simp only[aK,List.length_cons];omega
def g0 (P:Program)(W:World):Ctx:=⟨fun _=>none,fun r _=>if r<W.heap.size then .cI else .free,fun _ _=>none,fun n c k=>∃an,ax P n an false k=some c⟩
theorem IE (P:Program)(W:World):SR W (g0 P W) [] W where
 size:=Nat.le_refl _
 er _ _:=rfl
 pb r o h:=by simp[g0,h]
 fresh r o h:=by simp only[g0];rw[if_neg (by omega)]
 gG b x h:=by simp[g0]at h
 cd t e x h:=by simp[g0]at h
 dy b x h:=by simp at h
 env:=⟨rfl,rfl⟩
theorem IG (P:Program)(W:World):b8 P (g0 P W):=fun _ _ _=>Iff.rfl
theorem oB {α:Type}{Q:Nat→α→Prop}:∀(n:Nat),(∀i,i<n→∃c,Q i c)→∃l:List α,l.length=n∧∀(i:Nat) (c:α),l[i]?=some c→Q i c
 | 0,_=>⟨[],rfl,by simp⟩
 | n+1,h=>by
  obtain⟨l,hl,hq⟩:=oB n fun i hi=>h i (by omega)
  obtain⟨c,hc⟩:=h n (by omega)
  refine⟨l++[c],by simp[hl],fun i d hd=>?_⟩
  by_cases hi:i<n
  ·rw[List.getElem?_append_left (by omega)]at hd;exact hq i d hd
  ·rw[List.getElem?_append_right (by omega)]at hd
   have:i=n:=by
    have:=(List.getElem?_eq_some_iff.1 hd).1;simp at this;omega
   subst this;simp[hl]at hd;subst hd;exact hc
section
variable {H:Type} {enc:TypeId×Value→H} {P:Program} {W:World} {held:Bool} {B:Nat}
theorem l6 {a:Addr}{n:Nat}{cs:List Value}(h:W.cells? 0 a n=some cs):cs.length=n∧∀(j:Nat) (v:Value),cs[j]?=some v→W.cell? (a.add j)=some v:=by
 unfold World.cells? at h
 rw[if_pos (Nat.zero_le _)]at h
 have key:∀(n:Nat) (cs:List Value),(List.range n).mapM (fun i=>W.cell? (a.add i))=some cs→cs.length=n∧∀(j:Nat) (v:Value),cs[j]?=some v→W.cell? (a.add j)=some v:=by
  intro n
  induction n with
  | zero=>intro cs h;simp at h;subst h;simp
  | succ n ih =>
   intro cs h
   rw[List.range_succ,List.mapM_append]at h
   cases h1:(List.range n).mapM (fun i=>W.cell? (a.add i))with
   | none=>simp[h1]at h
   | some l =>
    cases h2:W.cell? (a.add n)with
    | none=>simp[h1,h2]at h
    | some v =>
     simp[h1,h2]at h
     subst h
     obtain⟨k1,k2⟩:=ih l h1
     refine⟨by simp[k1],fun j u hj=>?_⟩
     by_cases DM:j<n
     ·rw[List.getElem?_append_left (by omega)]at hj;exact k2 j u hj
     ·rw[List.getElem?_append_right (by omega)]at hj
      have:j=n:=by
       have:=(List.getElem?_eq_some_iff.1 hj).1;simp at this;omega
      subst this;simp[k1]at hj;subst hj;exact h2
 exact key n cs h
def Reads (enc:TypeId×Value→H)(P:Program)(W:World)(held:Bool)(B:Nat)(t:TypeId)(l:List Sh):Prop :=
 ∀fuel cs d ps,DataW.trod enc P W 0 (fun _=>true) held fuel t cs=some (d,ps)→a6 d≤B→cs.length=l.length∧∃ts:List T,ay (g0 P W) W ts cs∧aS ts∧(∀(j:Nat) (s:Sh) (t:T),l[j]?=some s→ts[j]?=some t→cD B s t)∧ji ts≤a6 d
theorem ec {f:TypeId→Option (List Sh)}{n:Nat}{cs:List Value}:∀(fs:List Field) (off:Nat) (l:List Sh) (xs:List (DataW H×List MemPlace)),pR P f fs off=some l→(∀x∈fs,∀l',f x.type=some l'→Reads enc P W held B x.type l') →
  xs.length=fs.length→(∀(i:Nat) (x:Field),fs[i]?=some x→DataW.trod enc P W 0 (fun _=>true) held n x.type ((cs.drop x.offset).take (P.cellsOf x.type))=xs[i]?)→(∀x∈xs,a6 x.1≤B)→off+l.length≤cs.length →
  ∃ts:List T,ay (g0 P W) W ts ((cs.drop off).take l.length)∧aS ts∧(∀(j:Nat) (s:Sh) (t:T),l[j]?=some s→ts[j]?=some t→cD B s t)∧ji ts≤aK (xs.map (·.1))
 | [],off,l,xs,h,_,_,_,_,_=>by
  simp only[pR,Option.some.injEq]at h;subst h
  exact⟨[],by simpa using ay.nil,by simp[aS],by simp,by simp[ji]⟩
 | x :: fs,off,l,xs,h,hr,hl,ht,hb,hle=>by
  simp only[pR]at h
  split at h
  ·rename_i l1 h1
   split at h
   ·rename_i hc
    simp only[Option.map_eq_some_iff]at h
    obtain⟨l2,h2,rfl⟩:=h
    cases xs with
    | nil=>simp at hl
    | cons y xs =>
     have t0:=ht 0 x rfl
     simp only[List.getElem?_cons_zero]at t0
     obtain⟨d,ps⟩:=y
     obtain⟨a1,Hf,a2,a3,a4,a5⟩:=hr x (by simp) l1 h1 n _ d ps t0 (hb (d,ps) (by simp))
     obtain⟨IH,b2,b3,b4,b5⟩:=ec fs (off+l1.length) l2 xs h2 (fun z hz=>hr z (by simp[hz])) (by simpa using hl) (fun i z hz=>by have:=ht (i+1) z (by simpa using hz);simpa using this) (fun z hz=>hb z (by simp[hz])) (by simp at hle;omega)
     have e1:(cs.drop off).take (l1++l2).length=(cs.drop x.offset).take (P.cellsOf x.type)++(cs.drop (off+l1.length)).take l2.length:=by
      rw[hc.1,←hc.2,List.length_append,List.take_add,List.drop_drop]
     have Be:Hf.length=l1.length:=by rw[a2.1,a1]
     refine⟨Hf++IH,by rw[e1];exact a2.append b2,fun t ht=>?_,fun j s t hs ht=>?_,by rw[vW];simp only[List.map_cons,aK];omega⟩
     ·rcases List.mem_append.1 ht with h|h
      ·exact a3 t h
      ·exact b3 t h
     ·by_cases hj:j<l1.length
      ·rw[List.getElem?_append_left hj]at hs
       rw[List.getElem?_append_left (by omega)]at ht
       exact a4 j s t hs ht
      ·rw[List.getElem?_append_right (by omega)]at hs
       rw[List.getElem?_append_right (by omega),Be]at ht
       exact b4 _ s t hs ht
   ·cases h
  ·cases h
theorem zz {r o:Nat}{v:Value}(h:W.cell? ⟨r,o,none⟩=some v):mL (g0 P W) W r o v:=⟨by simp[g0,dQ h],h⟩
theorem reads:∀(n:Nat) (t:TypeId) (l:List Sh),ju P n t=some l→Reads enc P W held B t l
 | 0,_,_,h=>by simp[ju]at h
 | n+1,t,l,h=>by
  intro fuel cs d ps hd hb
  simp only[ju]at h
  split at h
  ·rename_i hu;cases h
   obtain⟨b,rfl,hx⟩:=DataW.trod_bool hu hd
   exact⟨rfl,[.bool b],ay.cons (.bool b) ay.nil,by simp[aS,T.one],fun j s t hs ht=>by cases j with
    | zero=>simp at hs ht;subst hs;subst ht;exact .bool b
    | succ j=>simp at hs,by have:=eK d;simp only[ji,T.bk];omega⟩
  ·rename_i k hu;cases h
   obtain⟨m,rfl,hx,hw⟩:=DataW.trod_int hu hd
   exact⟨rfl,[.int k m],ay.cons (.int k m) ay.nil,by simp[aS,T.one],fun j s t hs ht=>by cases j with
    | zero=>simp at hs ht;subst hs;subst ht;exact .int hw
    | succ j=>simp at hs,by have:=eK d;simp only[ji,T.bk];omega⟩
  ·rename_i hu;cases h
   obtain⟨s,rfl,hx,hw⟩:=DataW.trod_string hu hd
   cases hx
   exact⟨rfl,[.str s],ay.cons (.str s) ay.nil,by simp[aS,T.one],fun j s' t hs ht=>by cases j with
    | zero=>simp at hs ht;subst hs;subst ht;exact .str hw (by simp[a6]at hb;have:s.data.size=s.size:=rfl;omega)
    | succ j=>simp at hs,by simp only[ji,T.bk,a6];have:s.data.size=s.size:=rfl;simp⟩
  ·rename_i e hu
   split at h
   ·rename_i le he
    split at h
    ·rename_i hc
     cases h
     have ih:=reads n e le he
     rcases DataW.trod_slice hu hd with⟨rfl,hx⟩|⟨a,len,cap,elems,rest,m,_,rfl,hx,_,h1,h2,h3,h4,h5,_⟩
     ·exact⟨rfl,[.sl .nil []],ay.cons .slnil ay.nil,by simp[aS,T.one],fun j s t hs ht=>by cases j with
       | zero=>simp at hs ht;subst hs;subst ht;exact .nil
       | succ j=>simp at hs,by have:=eK d;simp only[ji,T.bk,Ao];omega⟩
     ·cases hx
      have Bf:∀x∈elems,a6 x.1≤B:=fun x hx=>by
       have:=gy (List.mem_map_of_mem (f:=(·.1)) hx);simp only[a6]at hb;omega
      have JU:len≤B:=by
       have:=rC (elems.map (·.1));simp only[a6]at hb;simp at this;omega
      have AY:∀i,i<len→∃c:List T,c.length=le.length∧∃us,W.cells? 0 (a.add (i*P.cellsOf e)) (P.cellsOf e)=some us∧ay (g0 P W) W c us∧aS c∧(∀(j:Nat) (s:Sh) (t:T),le[j]?=some s→c[j]?=some t→cD B s t)∧∀d,(elems.map (·.1))[i]?=some d→ji c≤a6 d:=by
       intro i hi
       have hk:=h4 i hi
       have fW:i<elems.length:=by omega
       rw[List.getElem?_eq_getElem fW]at hk
       obtain⟨us,k1,k2⟩:=Option.bind_eq_some_iff.1 hk
       obtain⟨q1,ts,q2,q3,q4,q5⟩:=ih m us elems[i].1 elems[i].2 k2 (Bf _ (List.getElem_mem fW))
       exact⟨ts,by rw[q2.1,q1],us,k1,q2,q3,q4,fun d hd=>by rw[List.getElem?_map,List.getElem?_eq_getElem fW]at hd;simp only[Option.map_some,Option.some.injEq]at hd;subst hd;exact q5⟩
      obtain⟨es,Hg,Bg⟩:=oB len AY
      have A0:cD B (.sl le) (.sl .arg es):=.sl (by omega) (by omega) (fun c hc=>by
       obtain⟨i,hi,rfl⟩:=List.getElem_of_mem hc
       exact(Bg i _ (List.getElem?_eq_getElem hi)).1) (fun c hc=>by
       obtain⟨i,hi,rfl⟩:=List.getElem_of_mem hc
       obtain⟨_,_,_,_,_,q,_⟩:=Bg i _ (List.getElem?_eq_getElem hi)
       exact q)
      have bS:VR (g0 P W) W (.sl .arg es) (.slice (some a) len cap):=by
       by_cases fG:cap=0
       ·have:len=0:=by omega
        subst this;subst fG
        have:es=[]:=List.eq_nil_of_length_eq_zero Hg
        subst this;exact .dq _
       ·have wX:a.spot=none:=by
         have cM:∃us,W.cells? 0 (a.add (0*P.cellsOf e)) (P.cellsOf e)=some us:=by
          by_cases hl:0<len
          ·obtain⟨_,_,us,k,_⟩:=AY 0 hl;exact⟨us,k⟩
          ·have h0:len=0:=by omega
           obtain⟨k1,k2⟩:=h5 rfl
           have:=k2 0 (by omega)
           have hr:0<rest.length:=by omega
           rw[List.getElem?_eq_getElem hr,h0]at this
           obtain⟨us,k3,_⟩:=Option.bind_eq_some_iff.1 this
           exact⟨us,by simpa using k3⟩
         obtain⟨us,II⟩:=cM
         obtain⟨k1,k2⟩:=l6 II
         have zd:0<us.length:=by omega
         have mW:=k2 0 us[0] (List.getElem?_eq_getElem zd)
         unfold World.cell? at mW
         split at mW
         ·split at mW
          ·cases mW
          ·rename_i mN;simpa[Addr.add]using mN
         ·cases mW
        obtain⟨r,o,sp⟩:=a
        simp only at wX;subst wX
        rw[←Hg]
        have hn:∀c∈es,c.length=le.length:=fun c hc=>by
         obtain⟨i,hi,rfl⟩:=List.getElem_of_mem hc
         exact(Bg i _ (List.getElem?_eq_getElem hi)).1
        have cM:∀(i j:Nat) (c:List T) (t:T),es[i]?=some c→c[j]?=some t→∃v,W.cell? ⟨r,o+i*le.length+j,none⟩=some v∧VR (g0 P W) W t v∧t.one=true:=by
         intro i j c t hi hj
         obtain⟨q1,us,q2,q3,q4,_⟩:=Bg i c hi
         obtain⟨k1,k2⟩:=l6 q2
         have Hi:j<us.length:=by rw[←q3.1];exact(List.getElem?_eq_some_iff.1 hj).1
         refine⟨us[j],?_,q3.2 j t _ hj (List.getElem?_eq_getElem Hi),q4 t (List.mem_of_getElem? hj)⟩
         have:=k2 j us[j] (List.getElem?_eq_getElem Hi)
         rw[←hc.1,a8,a8]at this
         exact this
        refine .sl (n:=le.length) (fun i j=>(W.cell? ⟨r,o+i*le.length+j,none⟩).getD undef) trivial (by omega) hn (fun i j c t hi hj=>?_) (fun i j c t hi hj=>?_)
        ·obtain⟨v,q1,q2,q3⟩:=cM i j c t hi hj
         exact⟨q3,by rw[q1];exact zz q1⟩
        ·obtain⟨v,q1,q2,q3⟩:=cM i j c t hi hj
         rw[q1];exact q2
      exact⟨rfl,[.sl .arg es],ay.cons bS ay.nil,by simp[aS,T.one],fun j s t hs ht=>by cases j with
       | zero=>simp at hs ht;subst hs;subst ht;exact A0
       | succ j=>simp at hs,by
       have Hj:=rB es (elems.map (·.1)) (by simp;omega) fun i c d hc hd=>by
        obtain⟨_,_,_,_,_,_,q⟩:=Bg i c hc
        exact q d hd
       simp only[ji,T.bk,a6];omega⟩
    ·cases h
   ·cases h
  ·rename_i fs hu
   split at h
   ·rename_i l' E0
    split at h
    ·rename_i hc
     cases h
     obtain⟨xs,m,_,hx,k1,k2,k3⟩:=DataW.trod_struct hu hd
     cases hx
     have Bf:∀x∈xs,a6 x.1≤B:=fun x hx=>by
      have:=gy (List.mem_map_of_mem (f:=(·.1)) hx);simp only[a6]at hb;omega
     obtain⟨ts,a1,a2,a3,a4⟩:=ec (n:=m) (cs:=cs) fs.toList 0 l xs E0 (fun x _ l2 h2=>reads n x.type l2 h2) (by simpa using k2) (fun i x hi=>k3 i x (by simpa using hi)) Bf (by omega)
     have e1:(cs.drop 0).take l.length=cs:=by rw[List.drop_zero,hc,←k1];simp
     rw[e1]at a1
     exact⟨by omega,ts,a1,a2,a3,by simp only[a6];omega⟩
    ·cases h
   ·cases h
  ·rename_i k e hu
   split at h
   ·rename_i l' E0
    split at h
    ·rename_i hc
     cases h
     obtain⟨xs,m,_,hx,k1,k2,k3⟩:=DataW.trod_array hu hd
     cases hx
     have Bf:∀x∈xs,a6 x.1≤B:=fun x hx=>by
      have:=gy (List.mem_map_of_mem (f:=(·.1)) hx);simp only[a6]at hb;omega
     obtain⟨ts,a1,a2,a3,a4⟩:=ec (n:=m) (cs:=cs) (oA k e (P.cellsOf e)) 0 l xs E0 (fun x hx l2 h2=>by
      obtain⟨i,_,rfl⟩:=List.mem_map.1 hx;exact reads n e l2 h2) (by rw[k2];simp[oA]) (fun i x hi=>by
      simp only[oA,List.getElem?_map,Option.map_eq_some_iff]at hi
      obtain⟨j,hj,rfl⟩:=hi
      obtain⟨h1,h2⟩:=List.getElem?_eq_some_iff.1 hj
      rw[List.getElem_range]at h2
      subst h2
      exact k3 i (by simpa using h1)) Bf (by omega)
     have e1:(cs.drop 0).take l.length=cs:=by rw[List.drop_zero,hc,←k1];simp
     rw[e1]at a1
     exact⟨by omega,ts,a1,a2,a3,by simp only[a6];omega⟩
    ·cases h
   ·cases h
  ·cases h
def rD (P:Program)(t:TypeId):Option Sh:=match P.underlying t with
 | some .bool|some (.int _)|some .string|some (.slice _)=>match ju P 9 t with
  | some [s]=>some s
  | _=>none
 | some (.struct _)|some (.array _ _)=>match ju P 9 t with
  | some l=>some (.ag l)
  | none=>none
 | _=>none
def iU (P:Program):List TypeId→Option (List Sh)
 | []=>some []
 | t :: ts=>match rD P t,iU P ts with
  | some s,some l=>some (s :: l)
  | _,_=>none
inductive gz (B:Nat):List Sh→List T→Prop
 | nil:gz B [] []
 | cons {s t ss ts} (h:cD B s t) (hs:gz B ss ts):gz B (s :: ss) (t :: ts)
theorem rE {base:Nat}{t:TypeId}{s:Sh}{v:Value}{d:DataW H}{p:List MemPlace}(h:rD P t=some s)(hv:Value.okWide P W .any base t v)(hf:DataW.Trod enc P W 0 (fun _=>true) held t v d p)(hB:a6 d≤B) :
  ∃u:T,VR (g0 P W) W u v∧cD B s u∧u.bk≤a6 d:=by
 obtain⟨fuel,hf⟩:=hf
 have one:(∀cs,v≠.agg cs)→v.cells.toList=[v]:=by
  intro h;cases v<;>first|rfl|exact absurd rfl (h _)
 have sc:v.cells.toList=[v]→(match ju P 9 t with|some [s]=>some s|_=>none)=some s→∃u:T,VR (g0 P W) W u v∧cD B s u∧u.bk≤a6 d:=by
  intro E1 h
  split at h
  ·rename_i s' h3
   cases h
   obtain⟨c1,us,c2,c3,c4,c5⟩:=reads (B:=B) 9 t [s] h3 fuel _ d p hf hB
   rw[E1]at c2
   have Hk:us.length=1:=by have:=c2.1;simpa using this
   obtain⟨u,rfl⟩:∃u,us=[u]:=by
    cases us with
    | nil=>simp at Hk
    | cons u IJ=>cases IJ with
     | nil=>exact⟨u,rfl⟩
     | cons _ _=>simp at Hk
   exact⟨u,c2.head,c4 0 s u rfl rfl,by simp only[ji]at c5;omega⟩
  ·cases h
 have ag:(∃cs,v=.agg cs)→(match ju P 9 t with|some l=>some (Sh.ag l)|none=>none)=some s→∃u:T,VR (g0 P W) W u v∧cD B s u∧u.bk≤a6 d:=by
  rintro⟨cs,rfl⟩ h
  split at h
  ·rename_i l h3
   cases h
   obtain⟨c1,us,c2,c3,c4,c5⟩:=reads (B:=B) 9 t l h3 fuel _ d p hf hB
   have hc:(Value.agg cs).cells.toList=cs.toList:=rfl
   rw[hc]at c1 c2
   refine⟨.agg us,.agg (by have:=c2.1;simpa using this.symm) c3 (fun i t v a b=>c2.2 i t v a (by simpa using b)),.ag (by rw[c2.1,c1]) c4,by have:=eK d;simp only[T.bk];omega⟩
  ·cases h
 simp only[rD]at h
 split at h
 ·rename_i hu
  exact sc (one (by rintro cs rfl;simp[Value.okWide,hu,Cell.okWide,Cell.ok]at hv)) h
 ·rename_i hu
  exact sc (one (by rintro cs rfl;simp[Value.okWide,hu,Cell.okWide,Cell.ok]at hv)) h
 ·rename_i hu
  exact sc (one (by rintro cs rfl;simp[Value.okWide,hu,Cell.okWide,Cell.ok]at hv)) h
 ·rename_i hu
  exact sc (one (by rintro cs rfl;simp[Value.okWide,hu,Cell.okWide,Cell.ok]at hv)) h
 ·rename_i hu
  exact ag (by cases v<;>first|exact⟨_,rfl⟩|simp[Value.okWide,hu]at hv) h
 ·rename_i hu
  exact ag (by cases v<;>first|exact⟨_,rfl⟩|simp[Value.okWide,hu]at hv) h
 ·cases h
theorem jW {base:Nat}:∀(ts:List TypeId) (vX:List Sh) (args:List Value) (ds:List (DataW H)) (p:List MemPlace),iU P ts=some vX→(∀(j:Nat) t v,ts[j]?=some t→args[j]?=some v→Value.okWide P W .any base t v) →
  DataW.TrodAll enc P W 0 (fun _=>true) held ts args ds p→aK ds≤B→∃aq:List T,ay (g0 P W) W aq args∧gz B vX aq∧ji aq≤aK ds
 | [],vX,args,ds,p,h,_,hA,_=>by
  cases args<;>cases ds<;>simp[DataW.TrodAll]at hA
  simp only[iU,Option.some.injEq]at h;subst h
  exact⟨[],ay.nil,.nil,by simp[ji]⟩
 | t :: ts,vX,args,ds,p,h,pS,hA,hB=>by
  cases args with
  | nil=>cases ds<;>simp[DataW.TrodAll]at hA
  | cons v args =>
   cases ds with
   | nil=>simp[DataW.TrodAll]at hA
   | cons d ds =>
    obtain⟨p,q,hf,h2,_⟩:=hA
    simp only[iU]at h
    split at h
    ·rename_i s l h3 h4
     cases h
     simp only[aK]at hB
     obtain⟨aq,b1,b2,b3⟩:=jW ts l args ds q h4 (fun j t v a b=>pS (j+1) t v (by simpa using a) (by simpa using b)) h2 (by omega)
     obtain⟨u,c1,c2,c3⟩:=rE (B:=B) (base:=base) (d:=d) (p:=p) h3 (pS 0 t v rfl rfl) hf (by omega)
     refine⟨u :: aq,ay.cons c1 b1,.cons c2 b2,?_⟩
     show T.bk u+ji aq≤a6 d+aK ds
     omega
    ·cases h
end
end Go.Rmp
end

section
namespace Go.Rmp
open Go.ChangeShapes Go.RowKit
section
variable {H:Type} {enc:TypeId×Value→H} {P:Program} {W W':World}
theorem fe {sp:Nat→Bool}{held:Bool}:∀(ts:List TypeId) (vs:List Value) (ds:List (DataW H)) (ps:List MemPlace),DataW.TrodAll enc P W 0 sp held ts vs ds ps→(∀p∈ps,W.sameAt W' p)→DataW.TrodAll enc P W' 0 sp held ts vs ds ps
 | [],[],[],_,h,_=>h
 | t :: ts,v :: vs,d :: ds,ps,⟨p,q,⟨n,hn⟩,h2,e⟩,hs=>⟨p,q,⟨n,DataW.trod_carry n t _ _ hn (fun x hx=>hs x (by rw[e];exact List.mem_append_left _ hx))⟩,fe ts vs ds q h2 (fun x hx=>hs x (by rw[e];exact List.mem_append_right _ hx)),e⟩
 | [],_ :: _,_,_,h,_=>h.elim
 | [],[],_ :: _,_,h,_=>h.elim
 | _ :: _,[],_,_,h,_=>h.elim
 | _ :: _,_ :: _,[],_,h,_=>h.elim
theorem nJ {g:Ctx}{Hh:aa}(h:SR W g Hh W')(S:MemPlace→Prop):W.keptBut W' S:=by
 refine⟨h.env.1,h.env.2,fun i hi=>?_⟩
 rw[h.er i hi]
 exact(World.keptBut_refl W S).2.2 i hi
theorem nK (h:∀r,r<W.heap.size→W'.heap[r]?=W.heap[r]?){b o:Nat}(hb:b<W.heap.size):W'.frozen? ⟨b,o,none⟩=W.frozen? ⟨b,o,none⟩:=by
 unfold World.frozen?
 rw[h _ hb]
theorem pT {E:Env}(hE:oh P E W){f:FuncId}{aq:List T}{args:List Value}(hv:ay (g0 P W) W aq args)(hW:Go.Rmp.W E (.call f aq) [] (fun o _=>o=.val (.bool true))) :
  Calls P f args.toArray W fun e W'=>e=.returned (.bool true)∧(∀S,W.keptBut W' S)∧∀r,r<W.heap.size→W'.heap[r]?=W.heap[r]?:=by
 obtain⟨_,hc⟩:=Go.Rmp.W.Ix hE hW (g0 P W) W args (IG P W) (IE P W) hv
 refine(callsIn_wide.1 hc).mono fun e W' ⟨v,t,g',H',he,hq,_,sr,bS,_⟩=>?_
 cases hq
 cases bS
 exact⟨he,nJ sr,sr.er⟩
theorem jv {E:Env}(hE:oh P E W){f:FuncId}{fn:Func}{s:ChangeSpec}{vX:List Sh}{B:Nat}{tb:TypeId}(K:Kids P (·<P.types.size))(hz:∀t e,t<P.types.size→P.underlying t=some (.slice e)→0<P.cellsOf e)
  (A0:iU P fn.params.toList=some vX) (aD:∀t∈fn.params.toList,t<P.types.size) (Hl:fn.resultTypes=#[tb]) (Hm:P.underlying tb=some .bool) (wY:s.vars=[])
  (kZ:∀ds:List (DataW H),ds.length=fn.params.toList.length→s.fn H ds={ results:=[.lit (.bool true)],args:=ds })
  (E2:∀aq:List T,gz B vX aq→ji aq≤B→Go.Rmp.W E (.call f aq) [] (fun o _=>o=.val (.bool true)))
  (base:Nat) (args:Array Value) (ds gs:List (DataW H)) (before:List MemPlace)
  (pS:∀(j:Nat) t v,fn.params[j]?=some t→args[j]?=some v→Value.okWide P W .any base t v)
  (hW:DataW.Whole enc P fn.params.toList s.vars false W args.toList ds gs before) (hB:aK (ds++gs)≤B) :
  Calls P f args W fun e W'=>∃v,e=.returned v∧s.post enc P fn false true false false W args v W':=by
 have DX:=hW
 obtain⟨p,q,hA,hV,Ej,DC,jJ⟩:=hW
 rw[wY]at hV
 obtain⟨rfl,rfl⟩:gs=[]∧q=[]:=by
  cases gs with
  | nil=>exact⟨rfl,hV⟩
  | cons _ _=>exact hV.elim
 simp only[List.append_nil]at Ej hB
 subst Ej
 obtain⟨aq,fX,IK,Hj⟩:=jW fn.params.toList vX args.toList ds before A0 (fun j t v a b=>pS j t v (by simpa using a) (by simpa using b)) hA hB
 have hc:=pT hE fX (E2 aq IK (Nat.le_trans Hj hB))
 rw[Array.toArray_toList]at hc
 refine hc.mono fun e W' ⟨he,hg,hold⟩=>⟨_,he,?_⟩
 have hlen:ds.length=fn.params.toList.length:=(trodAll_length hA).2
 have zA:=kZ ds hlen
 have mN:∀p∈before,(fun b=>decide (b<W.heap.size)) p.block=true:=fun p hp=>by simpa using DX.lt p hp
 have ot:∀sp:Nat→Bool,(∀p∈before,sp p.block=true)→DataW.TrodAll enc P W' 0 sp true fn.params.toList args.toList (s.fn H (ds++[])).args before:=by
  intro sp mN
  rw[List.append_nil,zA]
  refine DataW.TrodAll.respare K hz aD (fe _ _ _ _ hA fun x hx=>?_) mN
  have hb:=DX.lt x hx
  cases x with
  | cell b o=>simp only[World.sameAt,World.cell?];rw[hold b hb]
  | map b=>exact hold b hb
 have gS:∀(b:Nat) (sp:Nat→Bool) (hd:Bool),DataW.TrodAll enc P W' b sp hd fn.resultTypes.toList ((Value.bool true).resultList fn.resultTypes.size) (s.fn H (ds++[])).results []:=by
  intro b sp hd
  rw[List.append_nil,zA,Hl]
  simp only[Value.resultList]
  exact trodAll_mk1 (shut_bool Hm _)
 have rF:∀sp:Nat→Bool,DataW.TrodVars enc P W' sp s.vars (s.fn H (ds++[])).vars []:=by
  intro sp
  rw[List.append_nil,zA,wY];rfl
 refine⟨ds,[],before,[],before,[],DX,gS _ _ _,ot _ mN,rF _,World.keptBut_mono (fun p hp=>⟨hp,?_⟩) (hg (fun p=>p∈before)),fun _=>?_⟩
 ·exact Or.inr (by simpa using hp)
 ·refine⟨fun j t r hj hr=>?_,_,_,([]++before)++[],⟨[]++before,[],trodAll_append (ot _ (fun _ _=>rfl)) (gS _ _ _),rF _,rfl,?_,?_⟩,?_⟩
  ·rw[Hl]at hj hr
   cases j with
   | zero=>simp[Value.resultList]at hj hr;subst hj;subst hr;exact okWide_bool_mk Hm _
   | succ j=>simp at hj
  ·intro b off hp
   have DG:MemPlace.cell b off∈before:=by simpa using hp
   have hb:b<W.heap.size:=DX.lt _ DG
   rw[nK hold hb]
   exact DC b off DG
  ·intro ha;cases ha
  ·intro p hp _
   simpa using hp
end
end Go.Rmp
end

section
namespace Go.Rmp
def lg (R:ai)(H:aa):List Rd→Prop
 | []=>True
 | r :: l=>(av R r.g=true→ae R H r.op=some (R r.d,H))∧lg R H l
theorem eL {R:ai}{H:aa}:∀(l:List Rd),lg R H l→cH R H l
 | [],_=>fun r h=>by cases h
 | x :: l,h=>fun r hr=>by
  rcases List.mem_cons.1 hr with rfl|hr
  ·exact h.1
  ·exact eL l h.2 r hr
theorem rG (R:ai)(d:Nat)(v:T):aA R (some d) v=jj R d v:=rfl
theorem rH (R:ai)(v:T):aA R none v=R:=rfl
theorem rI (R:ai)(d:Nat)(v:T)(t:Nat):jj R d v t=if t=d then v else R t:=rfl
theorem oC (a:T)(l:List T):dp (a :: l) 0=a:=rfl
theorem Bh (R:ai)(t:Nat):X.ev R (.r t)=R t:=rfl
theorem Bi (R:ai)(v:T):X.ev R (.c v)=v:=rfl
def rJ (R:ai)(g:Gd)(s:List Rd):Bo→Prop
 | .eX _ c x y=>g=none∧s=[]∧c=.slice∧x.ev R=.sl .arg []∧y.ev R=.sl .nil []
 | _=>False
structure E3 (E:Env)(R:ai)(H:aa)(x:X)(az:List X)(P:aa→Bool→Prop)(b n:Nat)(R0:ai)(ps:List Nat)(bh body:C)(M1 M:Out→aa→Prop):Prop where
 hf:x.ev R=.gY b
 hb:H[b]?=some (.loop .ready none n R0 ps bh body)
 hn:az.length=ps.length
 h1:W E (.code bh (fB R0 ps (az.map (X.ev R)))) H M1
 qi:∀o H',M1 o H'→(∃R1,o=.ex .normal R1)∧H'[b]?=some (.loop .ready none n R0 ps bh body)
 h2:∀R1 H1,M1 (.ex .normal R1) H1→W E (.code body R1) (H1.set b (.loop .busy none n R0 ps bh body)) M
 mU:∀o H',M o H'→H'[b]?=some (.loop .busy none n R0 ps bh body)
 h3:∀R' H',M (.ex .normal R') H'→P (H'.set b (.loop .ready none n R0 ps bh body)) true
 h4:∀e R' H',M (.ex e R') H'→e≠.normal→P (H'.set b (.loop .done (some e) n R0 ps bh body)) false
def rK (R:ai)(H:aa)(b:Bo)(v:T)(H':aa):Prop:=∃n bytes t y bb len cs,b=.app n bytes false (.r t) y∧R t=.aQ bb 0 len n∧H[bb]?=some (.cells cs)∧len*n=cs.length∧0<len ∧
 ae (jj R t (.sl (.own H.length len) (dP cs 0 len n))) (H.set bb (.fz cs)++[.tok len]) b=some (v,H')
def en (E:Env):List O→ai→aa→(ai→aa→Prop)→Prop
 | [],R,H,K=>K R H
 | ⟨d,.b b,g,s⟩ :: l,R,H,K=>match av R g with
  | false=>en E l (aA R d aw) H K
  | true=>match ae R H b with
   | some (v,H')=>lg R H' s∧en E l (aA R d v) H' K
   | none=>(rJ R g s b∧∀t:Bool,en E l (aA R d (.bool t)) H K) ∨
    (∃x bb bi es ix cur,b=.hU x∧x.ev R=.ptr bi 0∧H[bb]?=some (.ct es ix bi cur)∧∀t H',fE H bb bi es ix t H'→lg R H' s∧en E l (aA R d t) H' K) ∨
    ∃v H',rK R H b v H'∧lg R H' s∧en E l (aA R d v) H' K
 | ⟨d,.call f az,g,s⟩ :: l,R,H,K=>match av R g with
  | false=>en E l (aA R d aw) H K
  | true=>∃M:Out→aa→Prop,W E (.call f (az.map (X.ev R))) H M∧∀v H',M (.val v) H'→lg R H' s∧en E l (aA R d v) H' K
 | ⟨d,.bl x az,g,s⟩ :: l,R,H,K=>match av R g with
  | false=>en E l (aA R d aw) H K
  | true=>(∃(f:Nat) (cs:List T) (M:Out→aa→Prop),x.ev R=.fn f cs∧W E (.call f (az.map (X.ev R)++cs)) H M∧∀v H',M (.val v) H'→lg R H' s∧en E l (aA R d v) H' K) ∨
   ∃b n R0 ps bh body M1 M,E3 E R H x az (fun H' t=>lg R H' s∧en E l (aA R d (.bool t)) H' K) b n R0 ps bh body M1 M
theorem cK {E:Env}{Q:Out→aa→Prop}:∀(l:List O) (R:ai) (H:aa),en E l R H (fun R' H'=>Q (.ex .normal R') H')→W E (.ops l R) H Q
 | [],R,H,h=>.nil h
 | ⟨d,.b b,g,s⟩ :: l,R,H,h=>by
  simp only[en]at h
  split at h
  ·rename_i hw;exact .no hw (cK l _ _ h)
  ·rename_i hw
   split at h
   ·rename_i v H' he;exact .op hw he (eL _ h.1) (cK l _ _ h.2)
   ·rcases h with h|⟨x,bb,bi,es,ix,cur,rfl,hx,hb,h⟩|⟨v,H',⟨n,bytes,t,y,bb,len,cs,rfl,ht,hb,hlen,h0,he⟩,h⟩
    ·cases b with
     | eX neg c x y =>
      obtain⟨⟨hg,hs,hc,hx,hy⟩,h⟩:=h
      subst hg
      exact .qh hs (fun t=>cK l _ _ (h t)) hx hy hc
     | _=>exact h.1.elim
    ·exact .hU hw hx hb (fun t H' hm=>eL _ (h t H' hm).1) fun t H' hm=>cK l _ _ (h t H' hm).2
    ·exact .DB hw ht hb hlen h0 he (eL _ h.1) (cK l _ _ h.2)
 | ⟨d,.call f az,g,s⟩ :: l,R,H,h=>by
  simp only[en]at h
  split at h
  ·rename_i hw;exact .no hw (cK l _ _ h)
  ·rename_i hw
   obtain⟨M,h1,h2⟩:=h
   exact .call M hw h1 (fun v H' hm=>eL _ (h2 v H' hm).1) (fun v H' hm=>cK l _ _ (h2 v H' hm).2)
 | ⟨d,.bl x az,g,s⟩ :: l,R,H,h=>by
  simp only[en]at h
  split at h
  ·rename_i hw;exact .no hw (cK l _ _ h)
  ·rename_i hw
   rcases h with⟨f,cs,M,hf,h1,h2⟩|⟨b,n,R0,ps,bh,body,M1,M,h⟩
   ·exact .bl M hw hf h1 (fun v H' hm=>eL _ (h2 v H' hm).1) (fun v H' hm=>cK l _ _ (h2 v H' hm).2)
   ·exact .gY M1 M hw h.hf h.hb h.hn h.h1 h.qi h.h2 h.mU (fun R' H' hm=>eL _ (h.h3 R' H' hm).1) (fun R' H' hm=>cK l _ _ (h.h3 R' H' hm).2) (fun e R' H' hm he=>eL _ (h.h4 e R' H' hm he).1) (fun e R' H' hm he=>cK l _ _ (h.h4 e R' H' hm he).2)
def l7 (K:ai→aa→Prop)(Q:Out→aa→Prop):Out→aa→Prop
 | .ex .normal R,H=>K R H
 | o,H=>Q o H
def fy (id:Nat)(Q:Out→aa→Prop):Out→aa→Prop
 | .ex (.exit i) R,H=>if i=id then Q (.ex .normal R) H else Q (.ex (.exit i) R) H
 | o,H=>Q o H
def gT (E:Env):C→ai→aa→(Out→aa→Prop)→Prop
 | .skip,R,H,Q=>Q (.ex .normal R) H
 | .ops l,R,H,Q=>en E l R H fun R' H'=>Q (.ex .normal R') H'
 | .seq a b,R,H,Q=>gT E a R H (l7 (fun R' H'=>gT E b R' H' Q) Q)
 | .cond x a b,R,H,Q=>match x.ev R with
  | .bool true=>gT E a R H Q
  | .bool false=>gT E b R H Q
  | _=>False
 | .block id a,R,H,Q=>gT E a R H (fy id Q)
 | .exit id,R,H,Q=>Q (.ex (.exit id) R) H
 | .ret,R,H,Q=>Q (.ex .ret R) H
 | .loop a,R,H,Q=>W E (.code (.loop a) R) H Q
 | .bw n x ps a b,R,H,Q=>W E (.code (.bw n x ps a b) R) H Q
theorem gA {E:Env}:∀(c:C) (R:ai) (H:aa) (Q:Out→aa→Prop),gT E c R H Q→W E (.code c R) H Q
 | .skip,R,H,Q,h=>.skip h
 | .ops l,R,H,Q,h=>.Av (cK l R H h)
 | .seq a b,R,H,Q,h=>.seq _ (gA a R H _ h) (fun R' H' hm=>gA b R' H' Q hm) (fun o H' hm hn=>by
  cases o with
  | ex e R'=>cases e with
   | normal=>exact absurd rfl (hn R')
   | exit id=>exact hm
   | ret=>exact hm
  | val v=>exact hm)
 | .cond x a b,R,H,Q,h=>by
  simp only[gT]at h
  split at h
  ·rename_i hx;exact .cond true hx (gA a R H Q h)
  ·rename_i hx;exact .cond false hx (gA b R H Q h)
  ·exact h.elim
 | .block id a,R,H,Q,h=>.block _ (gA a R H _ h) (fun R' H' hm=>by simpa[fy]using hm) (fun o H' hm hn=>by
  cases o with
  | ex e R'=>cases e with
   | normal=>exact hm
   | exit i =>
    simp only[fy]at hm
    split at hm
    ·rename_i e;subst e;exact absurd rfl (hn R')
    ·exact hm
   | ret=>exact hm
  | val v=>exact hm)
 | .exit id,R,H,Q,h=>.exit h
 | .ret,R,H,Q,h=>.ret h
 | .loop a,R,H,Q,h=>h
 | .bw n x ps a b,R,H,Q,h=>h
section
variable (E:Env) (R:ai) (H:aa) (K:ai→aa→Prop) (Q:Out→aa→Prop) (l:List O) (d:Option Nat) (s:List Rd)
def DY:T→Bool
 | .bool c=>c
 | _=>false
def DZ:T→Bool
 | .bool c=>!c
 | _=>false
def jX (b:Bo)(g:Gd)(e:Option (T×aa)):Prop:=match e with
 | some (v,H')=>lg R H' s∧en E l (aA R d v) H' K
 | none=>(rJ R g s b∧∀t:Bool,en E l (aA R d (.bool t)) H K) ∨
  (∃x bb bi es ix cur,b=.hU x∧x.ev R=.ptr bi 0∧H[bb]?=some (.ct es ix bi cur)∧∀t H',fE H bb bi es ix t H'→lg R H' s∧en E l (aA R d t) H' K) ∨
  ∃v H',rK R H b v H'∧lg R H' s∧en E l (aA R d v) H' K
def vY (b:Bo)(g:Gd)(w:Bool):Prop:=match w with
 | false=>en E l (aA R d aw) H K
 | true=>jX E R H K l d s b g (ae R H b)
def Bj (v:T)(H':aa):Prop:=lg R H' s∧en E l (aA R d v) H' K
def oD (f:Nat)(az:List T):Prop:=∃M:Out→aa→Prop,W E (.call f az) H M∧∀v H',M (.val v) H'→Bj E R K l d s v H'
def vZ (f:Nat)(az:List X)(w:Bool):Prop:=match w with
 | false=>en E l (aA R d aw) H K
 | true=>oD E R H K l d s f (az.map (X.ev R))
def wZ (R:ai)(H:aa):Prop:=Q (.ex .normal R) H
def w6 (b:C)(R:ai)(H:aa):Prop:=gT E b R H Q
def rL (a b:C)(t:T):Prop:=match t with
 | .bool true=>gT E a R H Q
 | .bool false=>gT E b R H Q
 | _=>False
theorem w7:en E [] R H K=K R H:=rfl
theorem Ho (b:Bo):en E (⟨d,.b b,none,s⟩ :: l) R H K=jX E R H K l d s b none (ae R H b):=rfl
theorem Hp (b:Bo)(g:Nat×Bool):en E (⟨d,.b b,some g,s⟩ :: l) R H K=vY E R H K l d s b (some g) (av R (some g)):=by simp only[en,vY];rfl
theorem Hq (f:Nat)(az:List X):en E (⟨d,.call f az,none,s⟩ :: l) R H K=oD E R H K l d s f (az.map (X.ev R)):=rfl
theorem Bk (f:Nat)(az:List X)(g:Nat×Bool):en E (⟨d,.call f az,some g,s⟩ :: l) R H K=vZ E R H K l d s f az (av R (some g)):=by simp only[en,vZ];rfl
theorem Bl {g:Nat×Bool}{x:X}{az:List X}(hg:av R (some g)=false):en E (⟨d,.bl x az,some g,s⟩ :: l) R H K=en E l (aA R d aw) H K:=by
 simp only[en,hg]
theorem rM (neg:Bool)(c:ue)(x y:X):jX E R H K l d s (.eX neg c x y) none none=((s=[]∧c=.slice∧x.ev R=.sl .arg []∧y.ev R=.sl .nil [])∧∀t:Bool,en E l (aA R d (.bool t)) H K):=by simp only[jX,rJ,rK,true_and,reduceCtorEq,false_and,exists_false,or_false]
theorem rN (b:Bo)(g:Gd)(v:T)(H':aa):jX E R H K l d s b g (some (v,H'))=(lg R H' s∧en E l (aA R d v) H' K):=rfl
theorem w8 (b:Bo)(g:Gd):vY E R H K l d s b g true=jX E R H K l d s b g (ae R H b):=rfl
theorem w9 (b:Bo)(g:Gd):vY E R H K l d s b g false=en E l (aA R d aw) H K:=rfl
theorem rO (f:Nat)(az:List X):vZ E R H K l d s f az true=oD E R H K l d s f (az.map (X.ev R)):=rfl
theorem rP (f:Nat)(az:List X):vZ E R H K l d s f az false=en E l (aA R d aw) H K:=rfl
theorem dk {f:Nat}{az:List T}(M:Out→aa→Prop)(h1:W E (.call f az) H M)(h2:∀v H',M (.val v) H'→lg R H' s∧en E l (aA R d v) H' K):oD E R H K l d s f az:=⟨M,h1,h2⟩
theorem rQ:gT E .skip R H Q=Q (.ex .normal R) H:=rfl
theorem xa:gT E (.ops l) R H Q=en E l R H (wZ Q):=rfl
theorem oE:wZ Q R H=Q (.ex .normal R) H:=rfl
theorem xb (a b:C):gT E (.seq a b) R H Q=gT E a R H (l7 (w6 E Q b) Q):=rfl
theorem rR (x:X)(a b:C):gT E (.cond x a b) R H Q=rL E R H Q a b (x.ev R):=rfl
theorem oF (id:Nat)(a:C):gT E (.block id a) R H Q=gT E a R H (fy id Q):=rfl
theorem rS (id:Nat):gT E (.exit id) R H Q=Q (.ex (.exit id) R) H:=rfl
theorem xc:gT E .ret R H Q=Q (.ex .ret R) H:=rfl
theorem rT (a:C):gT E (.loop a) R H Q=W E (.code (.loop a) R) H Q:=rfl
theorem oG (n:Nat)(x:X)(ps:List Nat)(a b:C):gT E (.bw n x ps a b) R H Q=W E (.code (.bw n x ps a b) R) H Q:=rfl
theorem oH (b:C):w6 E Q b R H=gT E b R H Q:=rfl
theorem rU (a b:C):rL E R H Q a b (.bool true)=gT E a R H Q:=rfl
theorem rV (a b:C):rL E R H Q a b (.bool false)=gT E b R H Q:=rfl
theorem rW (R:ai)(H:aa):l7 K Q (.ex .normal R) H=K R H:=rfl
theorem rX (R:ai)(H:aa):l7 K Q (.ex .ret R) H=Q (.ex .ret R) H:=rfl
theorem rY (id:Nat)(R:ai)(H:aa):l7 K Q (.ex (.exit id) R) H=Q (.ex (.exit id) R) H:=rfl
theorem xd (id:Nat)(R:ai)(H:aa):fy id Q (.ex .normal R) H=Q (.ex .normal R) H:=rfl
theorem xe (id:Nat)(R:ai)(H:aa):fy id Q (.ex .ret R) H=Q (.ex .ret R) H:=rfl
theorem xf (id i:Nat)(R:ai)(H:aa):fy id Q (.ex (.exit i) R) H=if i=id then Q (.ex .normal R) H else Q (.ex (.exit i) R) H:=rfl
theorem rZ (t:Nat):av R (some (t,true))=DY (R t):=by cases h:R t<;>simp[av,DY,h]
theorem r4 (t:Nat):av R (some (t,false))=DZ (R t):=by cases h:R t<;>simp[av,DZ,h]
theorem xg (c:Bool):DY (.bool c)=c:=rfl
theorem xh:DY aw=false:=rfl
theorem xi:DZ aw=false:=rfl
theorem xj (c:Bool):DZ (.bool c)=!c:=rfl
end
def nL (res:List Rs)(Q:Out→aa→Prop):Out→aa→Prop
 | .ex .normal R,H | .ex .ret R,H=>match fD R H res with
  | some v=>Q (.val v) H
  | none=>False
 | _,_=>False
theorem W.D0 {E:Env}{f:Nat}{fn:Fn}{az:List T}{H:aa}{Q:Out→aa→Prop}(hf:E.fn f=some fn)(hr:fn.body.ep=false)(hn:az.length=fn.np)(h:gT E fn.body (dp az) H (nL fn.res Q)):W E (.call f az) H Q:=by
 refine .fn _ hf hr hn (gA _ _ _ _ h) fun o H' hm=>?_
 cases o with
 | ex e R =>
  cases e with
  | normal=>simp only[nL]at hm;split at hm;exact⟨R,.inl rfl,_,by assumption,hm⟩;exact hm.elim
  | exit id=>exact hm.elim
  | ret=>simp only[nL]at hm;split at hm;exact⟨R,.inr rfl,_,by assumption,hm⟩;exact hm.elim
 | val v=>exact hm.elim
theorem W.use {E:Env}{j:J}{H:aa}{Q Q':Out→aa→Prop}(h:W E j H Q)(hq:∀o H',Q o H'→Q' o H'):W E j H Q':=by
 induction h generalizing Q' with
 | skip h=>exact .skip (hq _ _ h)
 | exit h=>exact .exit (hq _ _ h)
 | ret h=>exact .ret (hq _ _ h)
 | Av _ ih=>exact .Av (ih hq)
 | seq M h1 h2 h3 _ jh=>exact .seq M h1 (fun R' H' hm=>jh R' H' hm hq) (fun o H' hm hn=>hq _ _ (h3 o H' hm hn))
 | cond t hx _ ih=>exact .cond t hx (ih hq)
 | block M h1 h2 h3 _=>exact .block M h1 (fun R' H' hm=>hq _ _ (h2 R' H' hm)) (fun o H' hm hn=>hq _ _ (h3 o H' hm hn))
 | loop M h1 h2 h3 _ jh=>exact .loop M h1 (fun R' H' hm=>jh R' H' hm hq) (fun o H' hm hn=>hq _ _ (h3 o H' hm hn))
 | nil h=>exact .nil (hq _ _ h)
 | no hg _ ih=>exact .no hg (ih hq)
 | op hg he hs _ ih=>exact .op hg he hs (ih hq)
 | call M hg h1 hs _ _ jh=>exact .call M hg h1 hs (fun v H' hm=>jh v H' hm hq)
 | bl M hg hf h1 hs _ _ jh=>exact .bl M hg hf h1 hs (fun v H' hm=>jh v H' hm hq)
 | gY M1 M hg hf hb hn h1 qi h2 mU Dy _ Dz _ _ _ DV DW=>exact .gY M1 M hg hf hb hn h1 qi h2 mU Dy (fun R' H' hm=>DV R' H' hm hq) Dz (fun e R' H' hm he=>DW e R' H' hm he hq)
 | qh hs h hx hy hc ih=>exact .qh hs (fun b=>ih b hq) hx hy hc
 | bw M hx h1 h2 _=>exact .bw M hx h1 (fun v H' hm=>let ⟨st,pe,a,b,c,d⟩:=h2 v H' hm;⟨st,pe,a,b,c,hq _ _ d⟩)
 | DA M hf hn h1 h2 _=>exact .DA M hf hn h1 (fun o H' hm=>let ⟨R',bs,a,b,c,d,v,e,f⟩:=h2 o H' hm;⟨R',bs,a,b,c,d,v,e,hq _ _ f⟩)
 | fn M hf hr hn h1 h2 _=>exact .fn M hf hr hn h1 (fun o H' hm=>let ⟨R',a,v,b,c⟩:=h2 o H' hm;⟨R',a,v,b,hq _ _ c⟩)
 | yH i M hi h1 h2 _=>exact .yH i M hi h1 (fun v H' hm=>hq _ _ (h2 v H' hm))
 | p0 M h1 h2 _=>exact .p0 M h1 (fun o H' hm=>let ⟨v,b,cs,a,c,d,e⟩:=h2 o H' hm;⟨v,b,cs,a,c,d,hq _ _ e⟩)
 | hU hg hx hb hs _ ih=>exact .hU hg hx hb hs fun t H' hm=>ih t H' hm hq
 | shr M h1 h2 _=>exact .shr M h1 (fun o H' hm=>let ⟨v,b,cs,k,a,c,d,e⟩:=h2 o H' hm;⟨v,b,cs,k,a,c,d,hq _ _ e⟩)
 | yI i hi hb _ ih=>exact .yI i hi hb (ih hq)
 | D7 hk hb _ ih=>exact .D7 hk hb (ih hq)
 | vw hl hv _ ih=>exact .vw hl hv (ih hq)
 | DB hg ht hb hlen h0 he hs _ ih=>exact .DB hg ht hb hlen h0 he hs (ih hq)
 | fY h=>exact .fY (E.mono _ _ _ _ _ h fun t H' hm=>hq _ _ hm)
def Ap (v:T)(H:aa):Out→aa→Prop:=fun o H'=>o=.val v∧H'=H
theorem oI (v v':T)(H H':aa):Ap v H (.val v') H'=(v'=v∧H'=H):=by simp[Ap]
theorem oJ (a b:T)(l:List T):dp (a :: b :: l) 1=b:=rfl
theorem oK (a b c:T)(l:List T):dp (a :: b :: c :: l) 2=c:=rfl
theorem oL (a b c d:T)(l:List T):dp (a :: b :: c :: d :: l) 3=d:=rfl
theorem oM (a b c d e:T)(l:List T):dp (a :: b :: c :: d :: e :: l) 4=e:=rfl
def v7 (v:T)(H:aa):Out→aa→Prop:=fun o H'=>o=.val v∧∃l,H'=H++l
theorem l8 (v v':T)(H l:aa):v7 v H (.val v') (H++l)=(v'=v):=by simp[v7]
theorem jY (v v':T)(H:aa):v7 v H (.val v') H=(v'=v):=by
 simp only[v7,Out.val.injEq,eq_iff_iff]
 exact⟨fun h=>h.1,fun h=>⟨h,[],by simp⟩⟩
theorem jZ (k:IntKind)(n:Nat):aR (.int k (n:Int))=some n:=by simp[aR]
theorem wrap64 {n:Int}(h:-9223372036854775808≤n∧n<9223372036854775808):IntKind.i64.wrap n=n:=by
 unfold IntKind.wrap
 simp only[IntKind.signed,IntKind.bits]
 simp
 omega
theorem Bm (v:T):valOf false [v]=some v:=rfl
theorem Bn (cs:List T):valOf true cs=some (.agg cs):=rfl
theorem D1 (a b:Nat):decide ((a:Int)<(b:Int))=decide (a<b):=by simp
theorem D2 (a b:Nat):decide ((a:Int)≤(b:Int))=decide (a≤b):=by simp
theorem D3 (a b:Nat):((a:Int)==(b:Int))=decide (a=b):=by rw[Bool.eq_iff_iff];simp;omega
theorem E4 (a b:Nat):((a:Int) != (b:Int))=!decide (a=b):=by rw[Bool.eq_iff_iff];simp;omega
theorem r5:∀(a:List UInt8),Op.bytesLess a a=false
 | []=>rfl
 | x :: a=>by simp[Op.bytesLess,r5 a]
theorem l9:∀(a b c:List UInt8),Op.bytesLess a b=true→Op.bytesLess b c=true→Op.bytesLess a c=true
 | _,[],_,h,_=>by cases ‹List UInt8›<;>simp[Op.bytesLess]at h
 | _,_ :: _,[],_,h=>by simp[Op.bytesLess]at h
 | [],_ :: _,_ :: _,_,_=>rfl
 | x :: a,y :: b,z :: c,h1,h2=>by
  simp only[Op.bytesLess,Bool.or_eq_true,decide_eq_true_eq,Bool.and_eq_true,beq_iff_eq]at h1 h2 ⊢
  rcases h1 with h1|⟨rfl,h1⟩
  ·rcases h2 with h2|⟨rfl,h2⟩
   ·exact .inl (UInt8.lt_trans h1 h2)
   ·exact .inl h1
  ·rcases h2 with h2|⟨rfl,h2⟩
   ·exact .inl h2
   ·exact .inr ⟨rfl,l9 a b c h1 h2⟩
theorem r6:∀(a b:List UInt8),Op.bytesLess a b=false→Op.bytesLess b a=false→a=b
 | [],[],_,_=>rfl
 | [],_ :: _,h,_=>by simp[Op.bytesLess]at h
 | _ :: _,[],_,h=>by simp[Op.bytesLess]at h
 | x :: a,y :: b,h1,h2=>by
  simp only[Op.bytesLess,Bool.or_eq_false_iff,decide_eq_false_iff_not,Bool.and_eq_false_iff,beq_eq_false_iff_ne]at h1 h2
  have e:x=y:=by
   have a1:=h1.1;have a2:=h2.1
   exact UInt8.le_antisymm (UInt8.not_lt.1 a2) (UInt8.not_lt.1 a1)
  subst e
  rw[r6 a b (h1.2.resolve_left (fun h=>h rfl)) (h2.2.resolve_left (fun h=>h rfl))]
theorem toList_inj {a b:ByteArray}(h:a.toList=b.toList):a=b:=by
 have e:∀c:ByteArray,c.toList=c.data.toList:=fun c=>Go.ByteArray.toList_eq c
 rw[e,e]at h
 cases a;cases b
 simp only[ByteArray.mk.injEq]
 exact Array.toList_inj.1 h
theorem cE (a b:ByteArray):dm a b=decide (a=b):=by
 unfold dm
 rw[Bool.eq_iff_iff]
 simp only[beq_iff_eq,decide_eq_true_eq]
 exact⟨toList_inj,fun h=>by rw[h]⟩
theorem r7 (a:ByteArray):strLt a a=false:=r5 _
theorem pU {a b c:ByteArray}(h1:strLt a b=true)(h2:strLt b c=true):strLt a c=true:=l9 _ _ _ h1 h2
theorem zB {a b:ByteArray}(h1:strLt a b=false)(h2:strLt b a=false):a=b:=toList_inj (r6 _ _ h1 h2)
theorem lt_asymm {a b:ByteArray}(h:strLt a b=true):strLt b a=false:=by
 cases e:strLt b a with
 | false=>rfl
 | true=>have:=pU h e;rw[r7]at this;cases this
theorem not_le (a b:ByteArray):(!(strLt b a||dm b a))=strLt a b:=by
 cases h:strLt a b with
 | true =>
  have h1:=lt_asymm h
  have h2:dm b a=false:=by rw[cE];simp;rintro rfl;rw[r7]at h;cases h
  simp[h1,h2]
 | false =>
  cases h1:strLt b a with
  | true=>simp
  | false=>have:=zB h h1;subst this;simp[cE]
def zC (n off:Nat):Option B→Option (List T)
 | some (.cells cs)=>if off+n≤cs.length then some ((cs.drop off).take n)else none
 | some (.fz cs)=>if off+n≤cs.length then some ((cs.drop off).take n)else none
 | _=>none
theorem oN (H:aa)(n b off:Nat):gF H n (.ptr b off)=zC n off H[b]?:=by
 simp only[gF,zC];rfl
theorem ma (H:aa)(n:Nat)(cs:List T):gF H n (.cF cs)=if n≤cs.length then some (cs.take n)else none:=rfl
theorem r8 (n off:Nat)(cs:List T):zC n off (some (.cells cs))=if off+n≤cs.length then some ((cs.drop off).take n)else none:=rfl
def zD (H:aa)(b:Nat)(vs:List T)(off:Nat):Option B→Option aa
 | some (.cells cs)=>if off+vs.length≤cs.length then some (H.set b (.cells (cs.take off++vs++cs.drop (off+vs.length))))else none
 | _=>none
theorem oO (H:aa)(vs:List T)(b off:Nat):ug H vs (.ptr b off)=zD H b vs off H[b]?:=by
 simp only[ug,zD];rfl
theorem r9 (H:aa)(b:Nat)(vs:List T)(off:Nat)(cs:List T):zD H b vs off (some (.cells cs))=if off+vs.length≤cs.length then some (H.set b (.cells (cs.take off++vs++cs.drop (off+vs.length))))else none:=rfl
theorem oP (off b o:Nat):ku off (.ptr b o)=some (.ptr b (o+off)):=rfl
def sa (id:Nat)(P:ai→aa→Prop)(Q:Out→aa→Prop):Out→aa→Prop
 | .ex (.exit i) R,H=>if i=id then P R H else Q (.ex (.exit i) R) H
 | o,H=>Q o H
theorem Bp (id:Nat)(P:ai→aa→Prop)(Q:Out→aa→Prop)(R:ai)(H:aa):sa id P Q (.ex .normal R) H=Q (.ex .normal R) H:=rfl
theorem Bq (id:Nat)(P:ai→aa→Prop)(Q:Out→aa→Prop)(R:ai)(H:aa):sa id P Q (.ex .ret R) H=Q (.ex .ret R) H:=rfl
theorem Br (id i:Nat)(P:ai→aa→Prop)(Q:Out→aa→Prop)(R:ai)(H:aa):sa id P Q (.ex (.exit i) R) H=if i=id then P R H else Q (.ex (.exit i) R) H:=rfl
def iV {α β:Type}[DecidableEq α](es:List (α×β))(k:α):Option β:=(es.find? fun e=>decide (k=e.1)).map (·.2)
def v8 {α β:Type}[DecidableEq α](es:List (α×β))(k:α)(v:β):List (α×β) :=
 match es.findIdx? fun e=>decide (k=e.1)with
 | some i=>es.set i (k,v)
 | none=>es++[(k,v)]
section
variable {α β:Type} [DecidableEq α]
theorem nN (e:α×β)(es:List (α×β))(k:α):iV (e :: es) k=if k=e.1 then some e.2 else iV es k:=by
 unfold iV;rw[List.find?_cons];by_cases h:k=e.1<;>simp[h]
theorem pV (es:List (α×β))(k:α):iV es k=match es.findIdx? fun e=>decide (k=e.1)with
  | some i=>(es[i]?).map (·.2)
  | none=>none:=by
 induction es with
 | nil=>rfl
 | cons e es ih =>
  rw[nN,List.findIdx?_cons]
  by_cases h:k=e.1
  ·simp[h]
  ·simp only[h,if_false,decide_false,Bool.false_eq_true,ih]
   cases List.findIdx? (fun e=>decide (k=e.1)) es<;>simp
theorem sb {es:List (α×β)}{k:α}{i:Nat}(h:(es.findIdx? fun e=>decide (k=e.1))=some i):∃v,es[i]?=some (k,v):=by
 rw[List.findIdx?_eq_some_iff_getElem]at h
 obtain⟨hi,h,-⟩:=h
 refine⟨es[i].2,?_⟩
 rw[List.getElem?_eq_getElem hi]
 simp only[decide_eq_true_eq]at h
 rw[h]
end
def fA {α:Type}(ek:α→T)(es:List (α×T)):List (T×T):=es.map fun e=>(ek e.1,e.2)
structure mc {α:Type}[DecidableEq α](kt:KT)(ek:α→T):Prop where
 has:∀a,(ek a).dw kt=true
 eq:∀a b,dn (ek a) (ek b)=some (decide (a=b))
section
variable {α:Type} [DecidableEq α] {kt:KT} {ek:α→T}
theorem nO (ho:mc kt ek)(k:α):∀es:List (α×T),bm (ek k) (fA ek es)=some (es.findIdx? fun e=>decide (k=e.1))
 | []=>rfl
 | e :: es=>by
  have ih:=nO ho k es
  simp only[fA]at ih ⊢
  simp only[List.map_cons,bm,ho.eq,List.findIdx?_cons]
  cases h:decide (k=e.1)
  ·simp[ih]
  ·simp
def me (o:Option T)(z:T)(ok:Bool):T:=match o with
 | some v=>if ok then .bo [v,.bool true]else v
 | none=>if ok then .bo [z,.bool false]else z
def nP (kt:KT)(z:T)(ok:Bool)(H:aa)(mb:Option B)(k:T):Option (T×aa):=match mb with
 | some (.map es)=>if k.dw kt then match bm k es with
  | some (some i)=>match es[i]? with
   | some e=>some (if ok then .bo [e.2,.bool true]else e.2,H)
   | none=>none
  | some none=>some (if ok then .bo [z,.bool false]else z,H)
  | none=>none else none
 | some (.ct es _ _ _)=>if k.dw kt then match bm k es with
  | some (some i)=>match es[i]? with
   | some e=>some (if ok then .bo [e.2,.bool true]else e.2,H)
   | none=>none
  | some none=>some (if ok then .bo [z,.bool false]else z,H)
  | none=>none else none
 | _=>none
def zE (kt:KT)(z:T)(ok:Bool)(H:aa)(m k:T):Option (T×aa):=match m with
 | .map b=>nP kt z ok H H[b]? k
 | .b9=>if k.dw kt then some (if ok then .bo [z,.bool false]else z,H)else none
 | _=>none
theorem sd (R:ai)(H:aa)(kt:KT)(z:T)(ok:Bool)(m k:X):ae R H (.mK kt z ok m k)=zE kt z ok H (m.ev R) (k.ev R):=by
 unfold zE nP
 simp only[ae]
 cases h1:(k.ev R).dw kt
 ·simp only[Bool.false_eq_true,if_false]
  cases m.ev R with
  | map b=>simp only;split<;>rfl
  | _=>rfl
 ·simp only[if_true]
  cases m.ev R with
  | map b =>
   simp only[cu]
   cases H[b]? with
   | none=>rfl
   | some x=>cases x<;>rfl
  | b9=>simp only[cu,bm]
  | _=>rfl
theorem mg (kt:KT)(z:T)(ok:Bool)(H:aa)(b:Nat)(k:T):zE kt z ok H (.map b) k=nP kt z ok H H[b]? k:=rfl
theorem sf (ho:mc kt ek)(z:T)(ok:Bool)(H:aa)(es:List (α×T))(s:α):nP kt z ok H (some (.map (fA ek es))) (ek s)=some (me (iV es s) z ok,H):=by
 simp only[nP,ho.has,nO ho,if_true,pV]
 cases h:List.findIdx? (fun e=>decide (s=e.1)) es with
 | none=>cases ok<;>rfl
 | some i =>
  obtain⟨v,hv⟩:=sb h
  have:(fA ek es)[i]?=some (ek s,v):=by simp[fA,hv]
  simp only[this,hv,me,Option.map_some]
def nQ (kt:KT)(H:aa)(b:Nat)(mb:Option B)(k v:T):Option (T×aa):=match mb with
 | some (.map es)=>if k.dw kt then match bm k es with
  | some (some i)=>some (aw,H.set b (.map (es.set i (k,v))))
  | some none=>some (aw,H.set b (.map (es++[(k,v)])))
  | none=>none else none
 | _=>none
def zF (kt:KT)(H:aa)(m k v:T):Option (T×aa):=match m with
 | .map b=>nQ kt H b H[b]? k v
 | _=>none
theorem sg (R:ai)(H:aa)(kt:KT)(m k v:X):ae R H (.tR kt m k v)=zF kt H (m.ev R) (k.ev R) (v.ev R):=by
 unfold zF nQ
 simp only[ae]
 cases m.ev R with
 | map b =>
  simp only
  cases h1:(k.ev R).dw kt
  ·simp only[Bool.false_eq_true,if_false];split<;>rfl
  ·simp only[if_true]
   cases H[b]? with
   | none=>rfl
   | some x=>cases x<;>rfl
 | _=>rfl
def zG (kt:KT)(H:aa)(b:Nat)(mb:Option B)(k:T):Option (T×aa):=match mb with
 | some (.map es)=>if k.dw kt then match bm k es with
  | some (some i)=>some (.bo [],H.set b (.map (es.eraseIdx i)))
  | some none=>some (.bo [],H)
  | none=>none else none
 | _=>none
def zH (kt:KT)(H:aa)(m k:T):Option (T×aa):=match m with
 | .map b=>zG kt H b H[b]? k
 | _=>none
theorem sh (R:ai)(H:aa)(kt:KT)(m k:X):ae R H (.del kt m k)=zH kt H (m.ev R) (k.ev R):=by
 unfold zH zG
 simp only[ae]
 cases m.ev R with
 | map b =>
  simp only
  cases h1:(k.ev R).dw kt
  ·simp only[Bool.false_eq_true,if_false];split<;>rfl
  ·simp only[if_true]
   cases H[b]? with
   | none=>rfl
   | some x=>cases x<;>rfl
 | _=>rfl
theorem mh (kt:KT)(H:aa)(b:Nat)(k:T):zH kt H (.map b) k=zG kt H b H[b]? k:=rfl
def zI (H:aa)(b:Nat):Option B→Option (T×aa)
 | some (.map es)=>some (.ptr H.length 0,H.set b (.ct es (List.range es.length) H.length none)++[.pZ b])
 | some (.ct es _ _ _)=>some (.ptr H.length 0,H.set b (.ct es (List.range es.length) H.length none)++[.pZ b])
 | _=>none
def zJ (H:aa):T→Option (T×aa)
 | .map b=>zI H b H[b]?
 | _=>none
theorem si (R:ai)(H:aa)(x:X):ae R H (.z6 x)=zJ H (x.ev R):=by
 simp only[ae]
 cases x.ev R with
 | map b =>
  simp only[cu,zJ]
  cases H[b]? with
  | none=>rfl
  | some y=>cases y<;>rfl
 | _=>rfl
theorem mi (H:aa)(b:Nat):zJ H (.map b)=zI H b H[b]?:=rfl
theorem sj (H:aa)(b:Nat)(es:List (T×T)):zI H b (some (.map es))=some (.ptr H.length 0,H.set b (.ct es (List.range es.length) H.length none)++[.pZ b]):=rfl
theorem sk (R:ai)(H:aa)(x:X):ae R H (.hU x)=none:=rfl
def wa (H:aa)(bi:Nat):Option B→Option (T×aa)
 | some (.ct es _ wG (some c))=>if wG=bi then(es[c]?).map fun e=>(.bo [e.1,e.2],H)else none
 | _=>none
def wb (H:aa)(bi:Nat):Option B→Option (T×aa)
 | some (.pZ b)=>wa H bi H[b]?
 | _=>none
def zK (H:aa):T→Option (T×aa)
 | .ptr bi 0=>wb H bi H[bi]?
 | _=>none
theorem sn (R:ai)(H:aa)(x:X):ae R H (.z7 x)=zK H (x.ev R):=by
 simp only[ae]
 cases x.ev R with
 | ptr bi o =>
  cases o with
  | zero =>
   simp only[zK]
   cases H[bi]? with
   | none=>rfl
   | some y=>cases y with
    | pZ b =>
     simp only[wb]
     cases H[b]? with
     | none=>rfl
     | some z=>cases z with
      | ct es ix wG cur=>cases cur<;>rfl
      | _=>rfl
    | _=>rfl
  | succ _=>rfl
 | _=>rfl
theorem mj (H:aa)(bi:Nat):zK H (.ptr bi 0)=wb H bi H[bi]?:=rfl
theorem su (H:aa)(bi b:Nat):wb H bi (some (.pZ b))=wa H bi H[b]?:=rfl
theorem sv (H:aa)(bi:Nat)(es:List (T×T))(ix:List Nat)(c:Nat):wa H bi (some (.ct es ix bi (some c)))=(es[c]?).map fun e=>(.bo [e.1,e.2],H):=by simp only[wa,if_true]
def Bs (H:aa)(b off len n n':Nat)(z:List T):Option B→Option (T×aa)
 | some (.cells cs)=>if n'=n∧z.length=n∧off+len*n≤cs.length then some (aw,H.set b (.cells (cs.take off++(List.replicate len z).flatten++cs.drop (off+len*n))))else none
 | _=>none
def zL (H:aa)(n:Nat)(z:List T):T→Option (T×aa)
 | .aQ b off len n'=>Bs H b off len n n' z H[b]?
 | _=>none
theorem sw (R:ai)(H:aa)(n:Nat)(z:List T)(x:X):ae R H (.As n z x)=zL H n z (x.ev R):=by
 simp only[ae]
 cases x.ev R with
 | aQ b off len n' =>
  simp only[zL]
  cases H[b]? with
  | none=>rfl
  | some y=>cases y<;>rfl
 | _=>rfl
theorem ml (H:aa)(n:Nat)(z:List T)(b off len n':Nat):zL H n z (.aQ b off len n')=Bs H b off len n n' z H[b]?:=rfl
theorem mm (kt:KT)(H:aa)(b:Nat)(k v:T):zF kt H (.map b) k v=nQ kt H b H[b]? k v:=rfl
theorem sx (ho:mc kt ek)(H:aa)(b:Nat)(es:List (α×T))(s:α)(v:T):nQ kt H b (some (.map (fA ek es))) (ek s) v=some (aw,H.set b (.map (fA ek (v8 es s v)))):=by
 simp only[nQ,ho.has,nO ho,if_true,v8]
 cases h:List.findIdx? (fun e=>decide (s=e.1)) es with
 | none=>simp[fA]
 | some i=>simp[fA]
end
theorem Bt:mc (.sc .str) T.str:=⟨fun _=>rfl,fun a b=>by simp only[dn,dA,cE]⟩
def kU (n:Nat):T:=.int .u64 n
theorem Bu:mc (.sc .int) kU:=⟨fun _=>rfl,fun a b=>by simp only[kU,dn,dA,if_true,D3]⟩
theorem sy (z:T)(ok:Bool)(H:aa)(es:List (ByteArray×T))(s:ByteArray):nP (.sc .str) z ok H (some (.map (fA T.str es))) (.str s)=some (me (iV es s) z ok,H):=sf Bt z ok H es s
theorem sz (z:T)(ok:Bool)(H:aa)(es:List (Nat×T))(s:Nat):nP (.sc .int) z ok H (some (.map (fA kU es))) (.int .u64 s)=some (me (iV es s) z ok,H):=sf Bu z ok H es s
theorem sA (H:aa)(b:Nat)(es:List (ByteArray×T))(s:ByteArray)(v:T):nQ (.sc .str) H b (some (.map (fA T.str es))) (.str s) v=some (aw,H.set b (.map (fA T.str (v8 es s v)))):=sx Bt H b es s v
theorem sB (H:aa)(b:Nat)(es:List (Nat×T))(s:Nat)(v:T):nQ (.sc .int) H b (some (.map (fA kU es))) (.int .u64 s) v=some (aw,H.set b (.map (fA kU (v8 es s v)))):=sx Bu H b es s v
theorem mo (v z:T):me (some v) z false=v:=rfl
theorem mq (z:T):me none z false=z:=rfl
theorem ka (v z:T):me (some v) z true=.bo [v,.bool true]:=rfl
theorem kb (z:T):me none z true=.bo [z,.bool false]:=rfl
end Go.Rmp
end
