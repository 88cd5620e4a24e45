/- Part of a proof of a law of this seat: the machine of plain values, its simulation, and the contracts of the functions that the law reaches. Conditions: none beyond the given row. -/
import Derived.Test.YtaplookbfhicoaaGreatDoorM0
import Derived.Laws.IdiomStrings
import Derived.RangeFuncRecord
import Derived.RangeFuncIn
import Derived.OpenShut
import Derived.RowKit3
import Derived.ChangeSame
import Derived.ReadAgain
import Derived.ChangeCalls
import Derived.Deep.Frames
import Derived.Laws.Strings
open Int renaming reduceLT → q6, reduceLE → q7, reduceBEq → q8, reduceBNe → q9, reduceEq → y1
open Nat renaming reduceAdd → y2, reduceLeDiff → y3, reduceLT → y4, reduceEqDiff → y5
set_option linter.unusedSimpArgs false
set_option linter.unusedVariables false
set_option linter.unnecessarySimpa false
set_option maxHeartbeats 4000000
section
namespace Go.Rmp
section
variable {P:Program} {w0 w:World} {g:Ctx} {H H':aa} {R:ai} {ρ:Operand→Value} {t:T}
theorem uJ {op:BinOp}{ty:TypeId}{ox oy:Operand}{x y:X}{b:Bo}(hc:qp P op ty x y=some b)(h:SR w0 g H w)(hx:VR g w (x.ev R) (ρ ox))(hy:VR g w (y.ev R) (ρ oy))(he:ae R H b=some (t,H')) :
  tp P w0 g H w (do pure (Next.value (←(do eqGuard op ty ox oy (ρ ox) (ρ oy);binOp op ty (ρ ox) (ρ oy))))) t H':=by
 refine aG.fq ?_
 unfold qp at hc
 cases hu:P.underlying ty with
 | none=>simp[hu]at hc
 | some d =>
  rw[hu]at hc
  have heq:∀n,isEq op=some n→op=if n then .neq else .eql:=by
   intro n hn;cases op<;>simp[isEq]at hn<;>subst hn<;>rfl
  have bin:b=.bin op x y→aG P w0 g H w (do eqGuard op ty ox oy (ρ ox) (ρ oy);binOp op ty (ρ ox) (ρ oy)) t H':=by
   rintro rfl
   simp only[ae,Option.map_eq_some_iff,Prod.mk.injEq]at he
   obtain⟨t',h1,rfl,rfl⟩:=he
   exact tL h hx hy h1
  have ref:(∃n c,isEq op=some n∧cls d=some c∧b=.eK n c x y)→aG P w0 g H w (do eqGuard op ty ox oy (ρ ox) (ρ oy);binOp op ty (ρ ox) (ρ oy)) t H':=by
   rintro⟨n,c,h1,h2,rfl⟩
   simp only[ae,Option.map_eq_some_iff,Prod.mk.injEq]at he
   obtain⟨r,h3,rfl,rfl⟩:=he
   rw[heq n h1]
   exact tN hu (by cases d<;>simp[cls]at h2<;>subst h2<;>rfl) h hx hy h3
  have gp:(match isEq op,cls d with|some n,some c=>some (Bo.eK n c x y)|_,_=>none)=some b→(∃n c,isEq op=some n∧cls d=some c∧b=.eK n c x y):=by
   intro hh
   cases h1:isEq op with
   | none=>simp[h1]at hh
   | some n =>
    cases h2:cls d with
    | none=>simp[h1,h2]at hh
    | some c=>simp[h1,h2]at hh;exact⟨n,c,rfl,rfl,hh.symm⟩
  cases d with
  | int k=>simp at hc;exact bin hc.symm
  | string=>simp at hc;exact bin hc.symm
  | bool =>
   simp only[Option.map_eq_some_iff]at hc
   obtain⟨n,h1,rfl⟩:=hc
   simp only[ae]at he
   rw[heq n h1]
   generalize x.ev R=tx at hx he
   generalize y.ev R=xR at hy he
   cases tx<;>cases xR<;>simp at he
   obtain⟨rfl,rfl⟩:=he
   exact tM hu h hx hy
  | struct fs =>
   cases h1:isEq op with
   | none=>simp[h1]at hc
   | some n =>
    cases h2:kinds P fs.toList with
    | none=>simp[h1,h2]at hc
    | some ks =>
     simp only[h1,h2]at hc
     split at hc
     ·rename_i aB
      simp only[Bool.and_eq_true,Bool.not_eq_true']at aB
      simp at hc;subst hc
      simp only[ae]at he
      rw[heq n h1]
      generalize x.ev R=tx at hx he
      generalize y.ev R=xR at hy he
      cases tx<;>cases xR<;>(try simp only[reduceCtorEq]at he)
      split at he
      ·rename_i hk
       simp only[Option.map_eq_some_iff,Prod.mk.injEq]at he
       obtain⟨r,h3,rfl,rfl⟩:=he
       exact tO hu aB.1.1 aB.1.2 aB.2 h hx hy hk h3
      ·cases he
     ·cases hc
  | pointer _=>exact ref (gp hc)
  | slice _=>exact ref (gp hc)
  | map _ _=>exact ref (gp hc)
  | func _ _ _=>exact ref (gp hc)
  | invalid=>exact ref (gp hc)
  | float _=>exact ref (gp hc)
  | complex _=>exact ref (gp hc)
  | unsafePointer=>exact ref (gp hc)
  | array _ _=>exact ref (gp hc)
  | chan _ _=>exact ref (gp hc)
  | interface _=>exact ref (gp hc)
  | tuple _=>exact ref (gp hc)
  | named _ _=>exact ref (gp hc)
theorem qt {ty:TypeId}{v:Value}{x:X}{b:Bo}(hc:jz P ty x=some b)(h:SR w0 g H w)(hx:VR g w (x.ev R) v)(he:ae R H b=some (t,H')):tp P w0 g H w (do pure (Next.value (←Instr.loadAt ty v))) t H':=by
 refine aG.fq ?_
 unfold jz at hc
 cases hu:P.underlying ty with
 | none=>simp[hu]at hc
 | some d =>
  cases hi:P.info? ty with
  | none=>simp[hu,hi]at hc
  | some i =>
   simp only[hu,hi,Option.some.injEq]at hc
   subst hc
   simp only[ae]at he
   cases hl:gD H (if bC d then i.size else 1) (x.ev R)with
   | none=>simp[hl]at he
   | some cs =>
    simp only[hl,Option.map_eq_some_iff,Prod.mk.injEq]at he
    obtain⟨t',h1,rfl,rfl⟩:=he
    exact xp hu hi rfl (fun e=>by rw[if_pos e]) h hx hl h1
theorem jB {ty:TypeId}{v:Value}{x:X}{f:Nat}{ad:Bool}{b:Bo}(hc:fp P ty x f ad=some b)(h:SR w0 g H w)(hx:VR g w (x.ev R) v)(he:ae R H b=some (t,H')) :
  aG P w0 g H w (if ad then Instr.fieldAt ty v f else Instr.field ty v f) t H':=by
 unfold fp at hc
 cases hu:P.underlying ty with
 | none=>simp[hu]at hc
 | some d =>
  cases d<;>simp only[hu]at hc<;>(try (cases hc;done))
  rename_i fs
  cases hf:fs[f]? with
  | none=>simp[hf]at hc
  | some fl =>
   simp only[hf]at hc
   cases hd:P.underlying fl.type with
   | none=>simp[hd]at hc
   | some d =>
    cases hi:P.info? fl.type with
    | none=>simp[hd,hi]at hc
    | some i =>
     simp only[hd,hi]at hc
     cases ad with
     | true =>
      simp only[if_true]at hc
      split at hc
      ·cases hc
      ·rename_i hz
       simp at hc;subst hc
       simp only[ae]at he
       simp only[Option.map_eq_some_iff,Prod.mk.injEq]at he
       obtain⟨t',h1,rfl,rfl⟩:=he
       exact tU hu hf hi hz h hx h1
     | false =>
      simp only[Bool.false_eq_true,if_false,Option.some.injEq]at hc
      subst hc
      simp only[ae]at he
      generalize x.ev R=tx at hx he
      cases tx<;>(try simp only[reduceCtorEq]at he)
      rename_i cs
      split at he
      ·rename_i hle
       simp only[Option.map_eq_some_iff,Prod.mk.injEq]at he
       obtain⟨t',h1,rfl,rfl⟩:=he
       exact tV hu hf hd hi rfl h hx hle h1
      ·cases he
theorem nL {ty:TypeId}{v vi:Value}{x i:X}{ad:Bool}{b:Bo}(hc:mV P ty x i ad=some b)(h:SR w0 g H w)(hx:VR g w (x.ev R) v)(hi:VR g w (i.ev R) vi)(he:ae R H b=some (t,H')) :
  aG P w0 g H w (if ad then Instr.indexAt ty v vi else Instr.index ty v vi) t H':=by
 unfold mV at hc
 cases hu:P.underlying ty with
 | none=>simp[hu]at hc
 | some d =>
  cases d<;>cases ad<;>simp only[hu]at hc<;>(try (cases hc;done))
  ·-- string
   simp at hc;subst hc
   simp only[ae]at he
   generalize x.ev R=tx at hx he
   cases tx<;>(try simp only[reduceCtorEq]at he)
   cases hn:aQ (i.ev R)with
   | none=>simp[hn]at he
   | some n =>
    simp only[hn,Option.map_eq_some_iff,Prod.mk.injEq]at he
    obtain⟨c,h1,rfl,rfl⟩:=he
    exact tY hu h hx hi hn h1
  ·-- slice
   rename_i e
   cases gP:P.info? e with
   | none=>simp[gP]at hc
   | some ei =>
    simp[gP]at hc;subst hc
    simp only[ae]at he
    simp only[Option.bind_eq_some_iff,Option.map_eq_some_iff,Prod.mk.injEq]at he
    obtain⟨n,h1,t',h2,rfl,rfl⟩:=he
    exact tW hu gP h hx hi h1 h2
  ·-- uK value
   rename_i n e
   cases gP:P.info? e with
   | none=>simp[gP]at hc
   | some ei =>
    cases xS:P.underlying e with
    | none=>simp[gP,xS]at hc
    | some d =>
     simp[gP,xS]at hc;subst hc
     simp only[ae]at he
     generalize x.ev R=tx at hx he
     cases tx<;>(try simp only[reduceCtorEq]at he)
     cases hn:aQ (i.ev R)with
     | none=>simp[hn]at he
     | some m =>
      simp only[hn]at he
      split at he
      ·rename_i cM
       simp only[Option.map_eq_some_iff,Prod.mk.injEq]at he
       obtain⟨t',h1,rfl,rfl⟩:=he
       exact tZ hu xS gP rfl h hx hi hn cM.1 cM.2 h1
      ·cases he
  ·-- uK address
   rename_i n e
   cases gP:P.info? e with
   | none=>simp[gP]at hc
   | some ei =>
    simp[gP]at hc;subst hc
    simp only[ae]at he
    generalize x.ev R=tx at hx he
    cases tx<;>(try simp only[reduceCtorEq]at he)
    cases hn:aQ (i.ev R)with
    | none=>simp[hn]at he
    | some m =>
     simp only[hn]at he
     split at he
     ·rename_i aC
      simp at he
      obtain⟨rfl,rfl⟩:=he
      exact tX hu gP h hx hi hn aC
     ·cases he
theorem cQ {x:Option Operand}{y:Option X}(h:dU x=some y)(hv:RV g w R ρ x.toList):OV g w R y (x.map ρ):=by
 cases x with
 | none=>simp[dU]at h;subst h;trivial
 | some x =>
  simp only[dU,Option.map_eq_some_iff]at h
  obtain⟨y',h1,rfl⟩:=h
  exact hv x (by simp) y' h1
theorem uL {ty:TypeId}{v:Value}{x:X}{lo hi mx:Option X}{dJ eb qu:Option Value}{b:Bo}(hc:o3 P ty x lo hi mx=some b)(h:SR w0 g H w)(hx:VR g w (x.ev R) v)(uc:OV g w R lo dJ)(uM:OV g w R hi eb)(wa:OV g w R mx qu)
  (he:ae R H b=some (t,H')):tp P w0 g H w (do pure (Next.value (←Instr.sliceAt ty v dJ eb qu))) t H':=by
 refine aG.fq ?_
 unfold o3 at hc
 split at hc
 ·rename_i e Iw hu
  cases gP:P.info? e with
  | none=>simp[gP]at hc
  | some ei =>
   simp only[gP,Option.map_some,Option.some.injEq]at hc
   subst hc
   cases dJ with
   | some _=>exact uc.elim
   | none=>cases qu with
    | some _=>exact wa.elim
    | none=>cases eb with
     | none=>exact uM.elim
     | some vh =>
      simp only[ae]at he
      generalize x.ev R=tx at hx he
      split at he
      ·rename_i bb off len n' hh C0
       split at he
       ·rename_i cM
        obtain⟨rfl,h1,h2,h3⟩:=cM
        simp only[Option.some.injEq,Prod.mk.injEq]at he
        obtain⟨rfl,rfl⟩:=he
        exact ud hu gP h hx uM C0 h1 h2 h3
       ·cases he
      ·cases he
 ·cases hc
theorem o6 {ty:TypeId}{v:Value}{x:X}{lo hi mx:Option X}{dJ eb qu:Option Value}{b:Bo}(hc:gk P ty x lo hi mx=some b)(h:SR w0 g H w)(hx:VR g w (x.ev R) v)(uc:OV g w R lo dJ)(uM:OV g w R hi eb)(wa:OV g w R mx qu)
  (he:ae R H b=some (t,H')):tp P w0 g H w (do pure (Next.value (←Instr.sliceAt ty v dJ eb qu))) t H':=by
 refine aG.fq ?_
 unfold gk at hc
 cases hu:P.underlying ty with
 | none=>simp[hu]at hc
 | some d =>
  cases d<;>simp only[hu]at hc<;>(try (cases hc;done))
  ·-- string
   cases mx with
   | some _=>simp at hc
   | none =>
    cases qu with
    | some _=>exact wa.elim
    | none =>
     simp at hc;subst hc
     simp only[ae]at he
     generalize x.ev R=tx at hx he
     cases tx<;>(try simp only[reduceCtorEq]at he)
     rename_i s
     cases hl:cT R 0 lo with
     | none=>simp[hl]at he
     | some l =>
      cases hh:cT R s.size hi with
      | none=>simp[hl,hh]at he
      | some r =>
       simp only[hl,hh]at he
       split at he
       ·rename_i cM
        simp at he
        obtain⟨rfl,rfl⟩:=he
        exact ua hu h hx uc uM hl hh cM.1 cM.2
       ·cases he
  ·-- slice
   rename_i e
   cases gP:P.info? e with
   | none=>simp[gP]at hc
   | some ei =>
    simp only[gP]at hc
    split at hc
    ·cases hc
    ·rename_i Gf
     simp at hc;subst hc
     simp only[ae]at he
     generalize x.ev R=tx at hx he
     cases tx<;>(try simp only[reduceCtorEq]at he)
     ·rename_i k es
      cases hl:cT R 0 lo with
      | none=>simp[hl]at he
      | some l =>
       cases hh:cT R es.length hi with
       | none=>simp[hl,hh]at he
       | some r =>
        simp only[hl,hh]at he
        cases mx with
        | none =>
         cases qu with
         | some _=>exact wa.elim
         | none =>
          simp only at he
          split at he
          ·rename_i cM
           simp at he
           obtain⟨rfl,rfl⟩:=he
           exact ub hu gP h hx uc uM hl hh cM.1 cM.2.1 cM.2.2
          ·cases he
        | some m =>
         cases qu with
         | none=>exact wa.elim
         | some vm =>
          cases hi with
          | none=>simp at Gf
          | some hi =>
           cases eb with
           | none=>exact uM.elim
           | some vh =>
            simp only at he
            cases hm:aQ (m.ev R)with
            | none=>simp[hm]at he
            | some m' =>
             simp only[hm]at he
             split at he
             ·rename_i cM
              simp only[Option.some.injEq,Prod.mk.injEq]at he
              obtain⟨rfl,rfl⟩:=he
              exact p7 hu gP h hx uc uM wa hl hh hm cM.1 cM.2.1 cM.2.2.1 cM.2.2.2
             ·cases he
     ·rename_i bb off len n'
      cases hl:cT R 0 lo with
      | none=>simp[hl]at he
      | some l =>
       cases hh:cT R len hi with
       | none=>simp[hl,hh]at he
       | some r =>
        simp only[hl,hh]at he
        cases mx with
        | some _=>simp at he
        | none =>
         cases qu with
         | some _=>exact wa.elim
         | none =>
          simp only at he
          split at he
          ·rename_i cM
           obtain⟨rfl,h1,h2⟩:=cM
           simp only[Option.some.injEq,Prod.mk.injEq]at he
           obtain⟨rfl,rfl⟩:=he
           exact p8 hu gP h hx uc uM hl hh h1 h2
          ·cases he
     ·rename_i bb off len n' cc
      cases hl:cT R 0 lo with
      | none=>simp[hl]at he
      | some l =>
       cases hh:cT R len hi with
       | none=>simp[hl,hh]at he
       | some r =>
        simp only[hl,hh]at he
        cases mx with
        | some _=>simp at he
        | none =>
         cases qu with
         | some _=>exact wa.elim
         | none =>
          simp only at he
          split at he
          ·rename_i cM
           obtain⟨rfl,h1,h2⟩:=cM
           simp only[Option.some.injEq,Prod.mk.injEq]at he
           obtain⟨rfl,rfl⟩:=he
           exact p9 hu gP h hx uc uM hl hh h1 h2
          ·cases he
theorem uN {src dst e:TypeId}{s:ByteArray}(hs:P.underlying src=some .string)(hd:P.underlying dst=some (.slice e))(he:P.underlying e=some (.int .u8))(h:SR w0 g H w) :
  aG P w0 g H w (convert src dst (.string s)) (.sl .arg (s.data.toList.map fun c=>[.int .u8 c.toNat])) H:=by
 have aJ:=run_bytes_of_string w src dst e s hs hd he
 have pI:=grownCap_ge w s.size 0 e
 generalize grownCap w s.size 0 e=cap at aJ pI
 have gF:(s.data.toList.map fun c=>[T.int .u8 c.toNat]).flatten=s.data.toList.map fun c=>T.int .u8 c.toNat:=by
  generalize s.data.toList=l
  induction l with
  | nil=>rfl
  | cons c l ih=>simp only[List.map_cons,List.flatten_cons,ih];rfl
 have hlen:(s.data.toList.map fun c=>[T.int .u8 c.toNat]).length=s.size:=by rw[List.length_map,Array.length_toList];rfl
 obtain⟨le,sr,fr,cF⟩:=h.zm (c:=bytesRow s cap) (ty:=e) (fr:=((bytesRow s cap).size,(bytesRow s cap).size+1)) (Tr.drew w) rfl
 refine⟨_,_,_,aJ,le,sr,?_,fr⟩
 have:=VR.ga (g:=g.row w.heap.size fun _=>.cF) (w:=w.drew.alloc (.cells (bytesRow s cap) e ((bytesRow s cap).size,(bytesRow s cap).size+1))) (k:=.arg) (es:=s.data.toList.map fun c=>[T.int .u8 c.toNat]) (r:=w.heap.size) (o:=0) (cap:=cap) (n:=1)
  (vs:=s.data.toList.map fun c=>Value.int .u8 c.toNat) (by intro c hc;obtain⟨b,_,rfl⟩:=List.mem_map.1 hc;rfl) (by
   rw[gF]
   refine⟨by simp,fun i t v a b=>?_⟩
   rw[List.getElem?_map]at a b
   cases hc:s.data.toList[i]? with
   | none=>rw[hc]at a;cases a
   | some c=>rw[hc]at a b;cases a;cases b;exact .int _ _)
  (by rw[gF];intro t ht;obtain⟨c,_,rfl⟩:=List.mem_map.1 ht;rfl) (by rw[hlen];exact pI) trivial (fun j v hj=>by
   rw[Nat.zero_add]
   refine cF j v ?_
   have aC:j<s.data.size:=by have:=(List.getElem?_eq_some_iff.1 hj).1;simpa using this
   unfold bytesRow
   rw[Array.getElem?_append_left (by simpa using aC)]
   rw[←hj];simp)
 rw[hlen]at this
 exact this
theorem iq (w:World)(a:Addr)(n r:Nat)(hr:r≠a.block):(w.freeze a n).heap[r]?=w.heap[r]?:=by
 unfold World.freeze
 split
 ·rfl
 ·simp only[Array.getElem?_modify]
  rw[if_neg (fun e=>hr e.symm)]
theorem o7 (w:World)(a:Addr)(n:Nat){c:Array Value}{t:TypeId}(h:w.heap[a.block]?=some (.cells c t))(hn:n≠0):(w.freeze a n).heap[a.block]?=some (.cells c t (a.off,a.off+n)):=by
 unfold World.freeze
 rw[if_neg hn]
 simp only[Array.getElem?_modify,if_true,h]
 rfl
theorem lB (w:World)(a:Addr)(n r j:Nat){c:Array Value}{t:TypeId}(h:w.heap[a.block]?=some (.cells c t))(hn:n≠0):(w.freeze a n).cell? ⟨r,j,none⟩=w.cell? ⟨r,j,none⟩:=by
 unfold World.cell?
 by_cases hr:r=a.block
 ·subst hr
  simp only[o7 w a n h hn,h]
 ·simp only[iq w a n r hr]
theorem uO {ty e:TypeId}{b len:Nat}{cs:List T}{v:Value}(hd:P.underlying ty=some (.slice e))(he:P.underlying e=some (.int .u8))(h:SR w0 g H w)(hv:VR g w (.aP b 0 len 1) v)(hb:H[b]?=some (.lit cs))(hl:len=cs.length) :
  aG P w0 g H w (convert ty ty v) (.sl .arg (cs.map fun c=>[c])) (H.set b .dead):=by
 obtain⟨r,q,dQ,h1,h2,c,t0,h3,h4,h5,h6⟩:=h.dt b _ hb
 cases hv with
 | aP hφ hc hq =>
 rename_i r1 o1 q1 cap
 rw[hφ]at dQ;cases dQ
 have fk:b<H.length:=(List.getElem?_eq_some_iff.1 hb).1
 have aJ:(convert ty ty (.slice (some ⟨r,0+0,none⟩) len cap)).run P w=.ok (.slice (some ⟨r,0+0,none⟩) len cap) (w.freeze ⟨r,q,none⟩ 1):=by
  have zI:w.shape? r=some (t0,c.size):=by unfold World.shape?;rw[h3]
  simp[convert,run_underlying hd,run_underlying he,markStringish,Sem.run,shape,freeze,zI,h4]
 have cJ:∀r' j,(w.freeze ⟨r,q,none⟩ 1).cell? ⟨r',j,none⟩=w.cell? ⟨r',j,none⟩:=fun r' j=>lB w ⟨r,q,none⟩ 1 r' j h3 (by decide)
 have qv:∀r',r'≠r→(w.freeze ⟨r,q,none⟩ 1).heap[r']?=w.heap[r']?:=fun r' hr=>iq w ⟨r,q,none⟩ 1 r' hr
 have wb:(w.freeze ⟨r,q,none⟩ 1).heap.size=w.heap.size:=by unfold World.freeze;simp
 have le:Le g w g (w.freeze ⟨r,q,none⟩ 1):=⟨fun _ _ h=>h,fun _ _ h=>h,fun _ _ _ h=>h,fun r' o v _ hh=>by rw[cJ];exact hh,rfl⟩
 have tr:CB w (w.freeze ⟨r,q,none⟩ 1) (fun r' j=>r'=r∧j=q) (fun _=>False):=by
  refine⟨by rw[wb];exact Nat.le_refl _,fun r' j _ _=>cJ r' j,fun r' j _ hh=>by rw[cJ];exact hh,fun r' x _ hx hh=>?_,fun r' _ _ hn=>?_,by unfold World.freeze;rfl,by unfold World.freeze;rfl⟩
  ·by_cases hr:r'=r
   ·subst hr;rw[h3]at hh;cases hh;cases hx
   ·rw[qv r' hr];exact hh
  ·by_cases hr:r'=r
   ·exact absurd ⟨hr,rfl⟩ (hn q)
   ·exact qv r' hr
 refine⟨_,_,g,aJ,le,?_,?_,⟨by simp,fun b' y a _ d=>⟨bE a (by rintro rfl;rw[hφ]at d;cases d),d⟩⟩⟩
 ·refine h.vY (fun b'=>b'=b) tr (fun r' j j0 b' _ cU hk=>?_) le (fun r' j hs=>.inr (.inl ⟨b,by rw[hs.1,hs.2];exact h1,rfl⟩)) (fun _ hm=>hm.elim) (fun r' o hr=>h.fresh r' o (by rwa[wb]at hr)) (fun b' x hx=>by rw[List.length_set];exact h.gN b' x hx)
   (fun t e x hx=>by rw[List.length_set];exact h.cp t e x hx) (fun _ _ _=>rfl) (fun _ _ _ _=>⟨id,id⟩) (fun _ _ _ _=>rfl) (fun b' x hx=>?_)
  ·by_cases hr:r'=r
   ·subst hr
    by_cases hj:j=q
    ·subst hj
     rcases hk with hk|hk<;>rw[h1]at hk<;>cases hk
     exact absurd rfl cU
    ·rcases hk with hk|hk<;>rw[h2 j hj]at hk<;>cases hk
   ·unfold World.frozen?;rw[qv r' hr]
  ·rcases bj fk hx with⟨rfl,rfl⟩|⟨aF,ej⟩
   ·right;trivial
   ·exact .inl ⟨aF,ej⟩
 ·have gF:(cs.map fun c=>[c]).flatten=cs:=by
   clear h6 h5 hl hb
   induction cs with
   | nil=>rfl
   | cons c l ih=>simp only[List.map_cons,List.flatten_cons,ih];rfl
  have hlen:(cs.map fun c=>[c]).length=len:=by rw[List.length_map];exact hl.symm
  have:=VR.ga (g:=g) (w:=w.freeze ⟨r,q,none⟩ 1) (k:=.arg) (es:=cs.map fun c=>[c]) (r:=r) (o:=0+0) (cap:=cap) (n:=1) (vs:=c.toList)
   (by intro c hc;obtain⟨b,_,rfl⟩:=List.mem_map.1 hc;rfl) (by
    rw[gF]
    refine⟨by have:=Array.length_toList (xs:=c);omega,fun i t v a bb=>?_⟩
    obtain⟨_,v',k1,k2⟩:=h6 i t a
    rw[Array.getElem?_toList,k1]at bb;cases bb
    exact k2.mono le)
   (by rw[gF];intro t ht;obtain⟨i,hi⟩:=List.getElem?_of_mem ht;exact(h6 i t hi).1) (by rw[hlen];exact hc) trivial (fun j v hj=>by
    rw[Array.getElem?_toList]at hj
    have aC:j<c.size:=(Array.getElem?_eq_some_iff.1 hj).1
    refine⟨h2 (0+0+j) (by rw[←h4];omega),?_⟩
    rw[cJ]
    unfold World.cell?
    simp only[h3,Nat.zero_add]
    exact hj)
  rw[hlen]at this
  exact this
theorem qw {src dst:TypeId}{v:Value}{x:X}{b:Bo}(hc:jA P src dst x=some b)(h:SR w0 g H w)(hx:VR g w (x.ev R) v)(he:ae R H b=some (t,H')):tp P w0 g H w (do pure (Next.value (←convert src dst v))) t H':=by
 refine aG.fq ?_
 unfold jA at hc
 cases hs:P.underlying src with
 | none=>simp[hs]at hc
 | some ds =>
  cases hd:P.underlying dst with
  | none=>simp[hs,hd]at hc
  | some dd =>
   rw[hs,hd]at hc
   cases ds<;>cases dd<;>simp only[reduceCtorEq]at hc
   ·rename_i k0 k
    simp at hc;subst hc
    simp only[ae]at he
    generalize x.ev R=tx at hx he
    cases tx<;>simp at he
    obtain⟨rfl,rfl⟩:=he
    exact tP hs hd h hx
   ·rename_i e
    cases hu:P.underlying e with
    | none=>simp[hu]at hc
    | some d =>
     have zJ:d=.int .u8∧b=.vR false x:=by
      rw[hu]at hc
      cases d with
      | int k=>cases k<;>simp at hc;exact⟨rfl,hc.symm⟩
      | _=>simp at hc
     obtain⟨rfl,rfl⟩:=zJ
     simp only[ae]at he
     generalize x.ev R=tx at hx he
     cases hx<;>(try simp only[reduceCtorEq]at he)
     ·split at he
      ·cases he;exact uN hs hd hu h
      ·cases he
     ·rename_i b0 Gg Gh n0 r0 o0 q0 Gi _ _ _
      cases hb:H[b0]? with
      | none=>simp[hb]at he
      | some y=>cases y<;>simp[hb]at he
   ·rename_i e
    cases hu:P.underlying e with
    | none=>simp[hu]at hc
    | some d =>
     have zJ:d=.int .u8∧b=.vQ x:=by
      rw[hu]at hc
      cases d with
      | int k=>cases k<;>simp at hc;exact⟨rfl,hc.symm⟩
      | _=>simp at hc
     obtain⟨rfl,rfl⟩:=zJ
     simp only[ae]at he
     cases eW:aH H 1 (x.ev R)with
     | none=>simp[eW]at he
     | some es =>
      have tf:∀s,x.ev R≠.str s:=by
       intro s e;simp only[e]at he;split at he<;>cases he
      have v5:(bytesOf es).map (fun l=>(T.str ⟨l.toArray⟩,H))=some (t,H'):=by
       simp only[eW]at he
       generalize x.ev R=tx at he tf
       cases tx<;>first|exact he|exact absurd rfl (tf _)
      simp only[Option.map_eq_some_iff,Prod.mk.injEq]at v5
      obtain⟨l,h1,rfl,rfl⟩:=v5
      exact tT hs hu hd h hx eW tf h1
   ·rename_i e0 e
    split at hc
    ·rename_i C1
     have C1:src=dst:=by simpa using C1
     subst C1
     cases hu:P.underlying e with
     | none=>simp[hu]at hc
     | some d =>
      have zJ:d=.int .u8∧b=.vR true x:=by
       rw[hu]at hc
       cases d with
       | int k=>cases k<;>simp at hc;exact⟨rfl,hc.symm⟩
       | _=>simp at hc
      obtain⟨rfl,rfl⟩:=zJ
      simp only[ae]at he
      generalize x.ev R=tx at hx he
      cases tx<;>(try simp only[reduceCtorEq]at he)
      ·simp at he
      rename_i b0 off len n
      cases hb:H[b0]? with
      | none=>simp[hb]at he
      | some y =>
       cases y<;>simp only[hb,reduceCtorEq]at he
       split at he
       ·rename_i hh
        obtain⟨_,rfl,rfl,hl⟩:=hh
        cases he
        exact uO hd hu h hx hb hl
       ·cases he
    ·cases hc
end
section
variable {P:Program} {w0 w:World} {g:Ctx} {H H':aa} {R:ai} {ρ:Operand→Value} {t:T}
theorem cd {ty:TypeId}{z:List T}(h:zeroOf P ty=some z):∃i zv,P.info? ty=some i∧i.zero=some zv∧bO zv.cells.toList=some z:=by
 unfold zeroOf at h
 cases h1:P.info? ty with
 | none=>simp[h1]at h
 | some i =>
  simp only[h1]at h
  cases h2:i.zero with
  | none=>simp[h2]at h
  | some zv=>simp only[h2]at h;exact⟨i,zv,rfl,h2,h⟩
theorem mX {dp:List TypeId}{rt:TypeId}{mu:Bool}{as:List X}{vs:List Value}{b:Bo}(hc:eM P mu dp as=some b)(h:SR w0 g H w)(hv:ax g w (as.map (X.ev R)) vs)(he:ae R H b=some (t,H')) :
  aG P w0 g H w (Builtin.append_ dp.toArray rt vs.toArray) t H':=by
 unfold eM at hc
 split at hc
 ·rename_i sT xT x y
  cases vs with
  | nil=>have:=hv.1;simp at this
  | cons vx vs =>
   cases vs with
   | nil=>have:=hv.1;simp at this
   | cons vy vs =>
    cases vs with
    | cons _ _=>have:=hv.1;simp at this
    | nil =>
     have hx:VR g w (x.ev R) vx:=hv.head
     have hy:VR g w (y.ev R) vy:=hv.tail.head
     cases hs:P.underlying sT with
     | none=>simp[hs]at hc
     | some ds =>
      cases uC:P.underlying xT with
      | none=>cases ds<;>simp[hs,uC]at hc
      | some dx =>
       cases ds<;>simp only[hs,uC]at hc<;>(try (cases hc;done))
       rename_i e
       cases hi:P.info? e with
       | none=>simp[hi]at hc
       | some ei =>
        simp only[hi]at hc
        cases hz:ei.zero with
        | none=>simp[hz]at hc
        | some zv =>
         simp only[hz]at hc
         split at hc
         ·rename_i aB
          simp only[Bool.and_eq_true,beq_iff_eq,bne_iff_ne]at aB
          simp at hc;subst hc
          have E:gb P sT xT e ei zv ei.size ei.bytes:=⟨hs,hi,⟨dx,uC,fun k e=>by subst e;simp[qq]at aB⟩,rfl,hz,aB.1.2,rfl,aB.2⟩
          simp only[ae]at he
          cases jd:aH H ei.size (y.ev R)with
          | none=>simp[jd]at he
          | some new =>
           simp only[jd]at he
           cases mu with
           | true =>
            simp only[if_true]at he
            exact qh E h hx.yP hy jd he
           | false =>
            simp only[Bool.false_eq_true,if_false]at he
            generalize x.ev R=tx at hx he
            cases tx<;>(try simp only[reduceCtorEq]at he)
            split at he
            ·rename_i er
             exact uo E h hx hy er jd he
            ·cases he
         ·cases hc
 ·cases hc
theorem uP {dp:List TypeId}{rt:TypeId}{as:List X}{vs:List Value}{b:Bo}(hc:lz P dp as=some b)(h:SR w0 g H w)(hv:ax g w (as.map (X.ev R)) vs)(he:ae R H b=some (t,H')) :
  aG P w0 g H w (Builtin.append_ dp.toArray rt vs.toArray) t H':=by
 unfold lz at hc
 split at hc
 ·rename_i sT xT x k
  cases vs with
  | nil=>have:=hv.1;simp at this
  | cons vx vs =>
   cases vs with
   | nil=>have:=hv.1;simp at this
   | cons vk vs =>
    cases vs with
    | cons _ _=>have:=hv.1;simp at this
    | nil =>
     have hx:VR g w (x.ev R) vx:=hv.head
     have hk:VR g w (k.ev R) vk:=hv.tail.head
     cases hs:P.underlying sT with
     | none=>simp[hs]at hc
     | some ds =>
      cases uC:P.underlying xT with
      | none=>cases ds<;>simp[hs,uC]at hc
      | some dx =>
       cases ds<;>cases dx<;>simp only[hs,uC]at hc<;>(try (cases hc;done))
       rename_i e kn
       cases hi:P.info? e with
       | none=>simp[hi]at hc
       | some ei =>
        cases hz:zeroOf P e with
        | none=>simp[hi,hz]at hc
        | some z =>
         simp only[hi,hz]at hc
         split at hc
         ·rename_i aB
          simp only[bne_iff_ne,ne_eq]at aB
          simp only[Option.some.injEq]at hc;subst hc
          obtain⟨i,zv,h1,h2,h3⟩:=cd hz
          rw[hi]at h1;cases h1
          simp only[ae,Option.bind_eq_some_iff]at he
          obtain⟨kk,ju,he⟩:=he
          generalize k.ev R=tk at hk ju
          cases hk<;>simp only[aQ]at ju<;>(try (cases ju;done))
          rename_i kq m
          split at ju
          ·rename_i hm
           simp only[Option.some.injEq]at ju
           subst ju
           have:=uB (rt:=rt) (kq:=kq) hs uC hi h2 h3 aB h hx he
           rw[Int.toNat_of_nonneg hm]at this
           exact this
          ·cases ju
         ·cases hc
 ·cases hc
theorem uQ {f:FuncId}{n:Nat}{x y:X}{args:Array Operand}{ρ:Operand→Value}(mB:nK P f=some n)(h:SR w0 g H w)(fW:ax g w ([x,y].map (X.ev R)) (args.toList.map ρ))(he:pQ H n (x.ev R) (y.ev R)=some (t,H')) :
  tp P w0 g H w (callFunc f (args.map ρ)) t H':=by
 unfold nK at mB
 cases hf:P.funcs[f]? with
 | none=>simp[hf]at mB
 | some fn =>
  simp only[hf]at mB
  cases hp:fn.params[0]? with
  | none=>simp[hp]at mB
  | some tS =>
   simp only[hp]at mB
   cases ht:P.underlying tS with
   | none=>simp[ht]at mB
   | some d =>
    cases d<;>simp only[ht]at mB<;>(try (cases mB;done))
    rename_i e
    cases hi:P.info? e with
    | none=>simp[hi]at mB
    | some ei =>
     simp only[hi]at mB
     split at mB
     ·rename_i hc
      simp only[Option.some.injEq]at mB;subst mB
      simp only[Bool.and_eq_true,v9,Option.isNone_iff_eq_none,beq_iff_eq,bne_iff_ne,ne_eq]at hc
      obtain⟨⟨⟨⟨c1,c2⟩,c3⟩,c4⟩,⟨c5,c6⟩,c7⟩:=hc
      have zK:Extern.find fn=some (Extern.SlicesOverlaps.overlaps fn.params fn.resultTypes):=by
       have r1:Extern.allGenericRows.lookup "slices.overlaps"=none:=by kernel_rfl
       have r2:Extern.allTypedRows.lookup "slices.overlaps"=some Extern.SlicesOverlaps.overlaps:=by kernel_rfl
       unfold Extern.find
       simp only[c4,c5,c6,c7,r1,r2,Option.map_none,Option.map_some]
       rfl
      cases ha:args.toList.map ρ with
      | nil=>rw[ha]at fW;have:=fW.1;simp at this
      | cons vx vs =>
       cases vs with
       | nil=>rw[ha]at fW;have:=fW.1;simp at this
       | cons vy vs =>
        cases vs with
        | cons _ _=>rw[ha]at fW;have:=fW.1;simp at this
        | nil =>
         rw[ha]at fW
         have hx:VR g w (x.ev R) vx:=fW.head
         have hy:VR g w (y.ev R) vy:=fW.tail.head
         have fL:args.map ρ=#[vx,vy]:=by apply Array.ext';simp[ha]
         obtain⟨v,w',g',h1,h2,h3,h4,h5⟩:=uD (results:=fn.resultTypes) hp ht hi h hx hy he
         refine⟨.value v,v,w',g',?_,.inl rfl,h2,h3,h4,h5⟩
         rw[fL,run_callFunc_extern hf (by simpa using c1) (by simp[c2]) c3 zK,h1]
         rfl
     ·cases mB
theorem lC {bi:Builtin}{dp:List TypeId}{rt:TypeId}{cs:Array Bool}{mu:Bool}{as:List X}{vs:List Value}{b:Bo}(hc:dE P mu bi dp as=some b)(h:SR w0 g H w)(hv:ax g w (as.map (X.ev R)) vs)(he:ae R H b=some (t,H')) :
  tp P w0 g H w (builtin bi dp.toArray rt cs vs.toArray) t H':=by
 have two:∀(x y:X),as=[x,y]→∃vx vy,vs=[vx,vy]∧VR g w (x.ev R) vx∧VR g w (y.ev R) vy:=by
  rintro x y rfl
  cases vs with
  | nil=>have:=hv.1;simp at this
  | cons vx vs =>
   cases vs with
   | nil=>have:=hv.1;simp at this
   | cons vy vs =>
    cases vs with
    | cons _ _=>have:=hv.1;simp at this
    | nil=>exact⟨vx,vy,rfl,hv.head,hv.tail.head⟩
 unfold dE at hc
 split at hc
 ·cases hz:lz P dp as with
  | some b'=>rw[hz]at hc;simp only[Option.some.injEq]at hc;subst hc;exact(uP hz h hv he).fq
  | none=>rw[hz]at hc;exact(mX hc h hv he).fq
 ·-- cap
  rename_i ty x
  cases vs with
  | nil=>have:=hv.1;simp at this
  | cons vx vs =>
   cases vs with
   | cons _ _=>have:=hv.1;simp at this
   | nil =>
    have hx:VR g w (x.ev R) vx:=hv.head
    cases hu:P.underlying ty with
    | none=>simp[hu]at hc
    | some d =>
     cases d<;>simp only[hu]at hc<;>(try (cases hc;done))
     simp only[Option.some.injEq]at hc;subst hc
     simp only[ae]at he
     generalize x.ev R=tx at hx he
     cases tx<;>simp only[reduceCtorEq,Option.some.injEq,Prod.mk.injEq]at he
     obtain⟨rfl,rfl⟩:=he
     exact(uy hu h hx).fq
 ·-- copy
  rename_i dT sT x y
  obtain⟨vx,vy,rfl,hx,hy⟩:=two x y rfl
  cases hu:P.underlying dT with
  | none=>simp[hu]at hc
  | some d =>
   cases d<;>simp only[hu]at hc<;>(try (cases hc;done))
   rename_i e
   cases hi:P.info? e with
   | none=>simp[hi]at hc
   | some ei =>
    simp only[hi,Option.map_some,Option.some.injEq]at hc;subst hc
    simp only[ae]at he
    exact(uz hu hi h hx hy he).fq
 ·-- len
  rename_i ty x
  cases vs with
  | nil=>have:=hv.1;simp at this
  | cons vx vs =>
   cases vs with
   | cons _ _=>have:=hv.1;simp at this
   | nil =>
    have hx:VR g w (x.ev R) vx:=hv.head
    cases hu:P.underlying ty with
    | none=>simp[hu]at hc
    | some d =>
     have hl:∃k,CE k d=true∧b=.len k x:=by
      cases d<;>simp[hu]at hc
      ·exact⟨.str,rfl,hc.symm⟩
      ·exact⟨.sl,rfl,hc.symm⟩
      ·exact⟨.map,rfl,hc.symm⟩
     obtain⟨k,hk,rfl⟩:=hl
     simp only[ae,Option.map_eq_some_iff,Prod.mk.injEq]at he
     obtain⟨n,h1,rfl,rfl⟩:=he
     exact(tQ hu hk h hx h1).fq
 ·-- clear
  rename_i ty x
  cases vs with
  | nil=>have:=hv.1;simp at this
  | cons vx vs =>
   cases vs with
   | cons _ _=>have:=hv.1;simp at this
   | nil =>
    have hx:VR g w (x.ev R) vx:=hv.head
    cases hu:P.underlying ty with
    | none=>simp[hu]at hc
    | some d =>
     cases d<;>simp only[hu]at hc<;>(try (cases hc;done))
     rename_i e
     cases hi:P.info? e with
     | none=>simp[hi]at hc
     | some ei =>
      cases hz:zeroOf P e with
      | none=>simp[hi,hz]at hc
      | some z =>
       simp only[hi,hz,Option.some.injEq]at hc;subst hc
       obtain⟨i,zv,k1,k2,k3⟩:=cd hz
       rw[hi]at k1;cases k1
       simp only[ae]at he
       generalize x.ev R=tx at hx he
       cases tx<;>(try (simp only[reduceCtorEq]at he;done))
       rename_i bb off len n'
       simp only at he
       cases hb:H[bb]? with
       | none=>simp[hb]at he
       | some y =>
        cases y<;>simp only[hb]at he<;>(try (cases he;done))
        rename_i Gj
        split at he
        ·rename_i ko
         obtain⟨rfl,lu,hle⟩:=ko
         simp only[Option.some.injEq,Prod.mk.injEq]at he
         obtain⟨rfl,rfl⟩:=he
         exact(uI hu hi k2 k3 h hx hb lu hle).fq
        ·cases he
 ·rename_i x y
  obtain⟨vx,vy,rfl,hx,hy⟩:=two x y rfl
  simp at hc;subst hc
  simp only[ae]at he
  generalize x.ev R=tx at hx he
  generalize y.ev R=xR at hy he
  cases tx<;>cases xR<;>simp only[reduceCtorEq,Option.some.injEq,Prod.mk.injEq]at he
  obtain⟨rfl,rfl⟩:=he
  exact(xz h hx hy).fq
 ·rename_i x y
  obtain⟨vx,vy,rfl,hx,hy⟩:=two x y rfl
  simp at hc;subst hc
  simp only[ae]at he
  generalize x.ev R=tx at hx he
  generalize y.ev R=xR at hy he
  cases tx<;>cases xR<;>simp only[reduceCtorEq,Option.some.injEq,Prod.mk.injEq]at he
  obtain⟨rfl,rfl⟩:=he
  exact(xA h hx hy).fq
 ·-- delete
  rename_i ty xt m k
  obtain⟨vm,vk,rfl,hm,hk⟩:=two m k rfl
  cases hu:P.underlying ty with
  | none=>simp[hu]at hc
  | some d =>
   cases d<;>simp only[hu]at hc<;>(try (cases hc;done))
   rename_i key elem
   cases dS:kr P key with
   | none=>simp[dS]at hc
   | some kt =>
    simp only[dS]at hc
    split at hc
    ·rename_i kZ
     simp at hc;subst hc
     simp only[ae]at he
     generalize m.ev R=tm at hm he
     cases tm<;>(try simp only[reduceCtorEq]at he)
     rename_i bb
     split at he
     ·rename_i mN
      cases hb:H[bb]? with
      | none=>simp[hb]at he
      | some z =>
       cases z<;>simp only[hb]at he<;>(try (cases he;done))
       rename_i es
       cases hr:bl (k.ev R) es with
       | none=>simp[hr]at he
       | some r =>
        have:=ui (rt:=rt) (xt:=xt) hu kZ h hm hk mN hb hr
        cases r with
        | none=>simp only[hr,Option.some.injEq,Prod.mk.injEq]at he;obtain⟨rfl,rfl⟩:=he;exact this.fq
        | some i=>simp only[hr,Option.some.injEq,Prod.mk.injEq]at he;obtain⟨rfl,rfl⟩:=he;exact this.fq
     ·cases he
    ·cases hc
 ·cases hc
theorem nN {ty:TypeId}{m k:X}{e:Nat}{kt:KT}{z:T}(h:mW P ty m k=some (e,kt,z)):∃key ei zv,P.underlying ty=some (.map key e)∧P.info? e=some ei∧ei.zero=some zv∧fh zv=some z∧fj P key kt=true:=by
 unfold mW at h
 cases hu:P.underlying ty with
 | none=>simp[hu]at h
 | some d =>
  cases d<;>simp only[hu]at h<;>(try (cases h;done))
  rename_i key e'
  cases h1:kr P key with
  | none=>simp[h1]at h
  | some Ix =>
   cases h2:P.info? e' with
   | none=>simp[h1,h2]at h
   | some ei =>
    simp only[h1,h2]at h
    cases h3:ei.zero with
    | none=>simp[h3]at h
    | some zv =>
     simp only[h3]at h
     cases h4:fh zv with
     | none=>simp[h4]at h
     | some z' =>
      simp only[h4]at h
      split at h
      ·rename_i kZ
       simp at h
       obtain⟨rfl,rfl,rfl⟩:=h
       exact⟨key,ei,zv,rfl,h2,h3,h4,kZ⟩
      ·cases h
theorem nO {ty:TypeId}{m k v:X}{vm vk vv:Value}{e:Nat}{kt:KT}{z:T}(hc:mW P ty m k=some (e,kt,z))(h:SR w0 g H w)(hm:VR g w (m.ev R) vm)(hk:VR g w (k.ev R) vk)(hv:VR g w (v.ev R) vv)(he:ae R H (.oH kt m k v)=some (t,H')) :
  tp P w0 g H w (do Instr.mapUpdate ty vm vk vv;pure Next.skip) t H':=by
 obtain⟨key,ei,zv,hu,hi,hz,iU,kZ⟩:=nN hc
 simp only[ae]at he
 generalize m.ev R=tm at hm he
 cases tm<;>(try simp only[reduceCtorEq]at he)
 rename_i bb
 split at he
 ·rename_i mN
  cases hb:H[bb]? with
  | none=>simp[hb]at he
  | some y =>
   cases y<;>simp only[hb]at he<;>(try (cases he;done))
   rename_i es
   cases hr:bl (k.ev R) es with
   | none=>simp[hr]at he
   | some r =>
    obtain⟨w',g',h1,h2,h3,h4⟩:=uh hu kZ h hm hk hv mN hb hr
    cases r with
    | none=>simp only[hr,Option.some.injEq,Prod.mk.injEq]at he;obtain⟨rfl,rfl⟩:=he;exact⟨.skip,undef,w',g',by simp[h1],.inr ⟨rfl,rfl⟩,h2,h3,cZ,h4⟩
    | some i=>simp only[hr,Option.some.injEq,Prod.mk.injEq]at he;obtain⟨rfl,rfl⟩:=he;exact⟨.skip,undef,w',g',by simp[h1],.inr ⟨rfl,rfl⟩,h2,h3,cZ,h4⟩
 ·cases he
theorem uR {ty:TypeId}{m k:X}{vm vk:Value}{e:Nat}{kt:KT}{z:T}{ok:Bool}(hc:mW P ty m k=some (e,kt,z))(h:SR w0 g H w)(hm:VR g w (m.ev R) vm)(hk:VR g w (k.ev R) vk)(he:ae R H (.gW kt z ok m k)=some (t,H')) :
  aG P w0 g H w (Instr.lookup ty vm vk ok) t H':=by
 obtain⟨key,ei,zv,hu,hi,hz,iU,kZ⟩:=nN hc
 simp only[ae]at he
 split at he
 ·rename_i mN
  cases eW:cn H (m.ev R)with
  | none=>simp[eW]at he
  | some es =>
   simp only[eW]at he
   cases hr:bl (k.ev R) es with
   | none=>simp[hr]at he
   | some r =>
    cases r with
    | none =>
     simp only[hr,Option.some.injEq,Prod.mk.injEq]at he
     obtain⟨rfl,rfl⟩:=he
     exact nD hu hi hz iU kZ h hm hk mN eW hr rfl
    | some i =>
     simp only[hr]at he
     cases hx:es[i]? with
     | none=>simp[hx]at he
     | some x =>
      simp only[hx,Option.some.injEq,Prod.mk.injEq]at he
      obtain⟨rfl,rfl⟩:=he
      exact nD hu hi hz iU kZ h hm hk mN eW hr (by simp[hx])
 ·cases he
theorem o8 {ty:TypeId}{ps:List (Nat×X)}{pv:List (Nat×Value)}{b:Bo}(hc:gm P ty ps=some b)(h:SR w0 g H w)(hv:PV g w R ps pv)(he:ae R H b=some (t,H')):aG P w0 g H w (Instr.build ty pv.toArray) t H':=by
 unfold gm at hc
 cases hu:P.underlying ty with
 | none=>simp[hu]at hc
 | some d =>
  cases hz:zeroOf P ty with
  | none=>cases d<;>simp[hu,hz]at hc
  | some z =>
   cases d<;>simp only[hu,hz]at hc<;>(try (cases hc;done))
   rename_i fs
   split at hc
   ·rename_i aB
    simp only[Bool.and_eq_true]at aB
    simp only[Option.some.injEq]at hc;subst hc
    obtain⟨i,zv,h1,h2,h3⟩:=cd hz
    simp only[ae]at he
    split at he
    ·rename_i l hl
     simp only[Option.map_eq_some_iff,Prod.mk.injEq]at he
     obtain⟨cs,h4,rfl,rfl⟩:=he
     refine oW hu h1 h2 h3 (fun f hf=>?_) (fun p hp=>?_) h hv hl h4
     ·have:=aB.1
      simp only[lA,List.all_eq_true]at this
      exact Option.isSome_iff_exists.1 (this f hf)
     ·have:=aB.2
      simp only[List.all_eq_true,decide_eq_true_eq]at this
      exact this p hp
    ·cases he
   ·cases hc
theorem uS {ty:TypeId}{n:Nat}{ps:List (Nat×X)}{pv:List (Nat×Value)}{b:Bo}{mu:Bool}(hc:o4 P mu ty n ps=some b)(h:SR w0 g H w)(hv:PV g w R ps pv)(he:ae R H b=some (t,H')):aG P w0 g H w (Instr.buildSlice ty n pv.toArray) t H':=by
 unfold o4 at hc
 cases hu:P.underlying ty with
 | none=>simp[hu]at hc
 | some d =>
  cases d<;>simp only[hu]at hc<;>(try (cases hc;done))
  rename_i e
  cases hi:P.info? e with
  | none=>simp[hi]at hc
  | some ei =>
   cases hz:zeroOf P e with
   | none=>simp[hi,hz]at hc
   | some z =>
    simp only[hi,hz]at hc
    split at hc
    ·rename_i aB
     simp only[Bool.and_eq_true,beq_iff_eq,decide_eq_true_eq]at aB
     simp at hc;subst hc
     obtain⟨i,zv,h1,h2,h3⟩:=cd hz
     rw[hi]at h1;cases h1
     cases mu with
     | false =>
      simp only[Bool.false_eq_true,if_false,ae,Option.map_eq_some_iff,Prod.mk.injEq]at he
      obtain⟨fs,h4,rfl,rfl⟩:=he
      exact uv hu hi h2 h3 aB.1 aB.2 h hv h4
     | true =>
      simp only[if_true,ae,Option.bind_eq_some_iff]at he
      obtain⟨fs,h4,he⟩:=he
      split at he
      ·simp only[Option.some.injEq,Prod.mk.injEq]at he
       obtain⟨rfl,rfl⟩:=he
       exact uA hu hi h2 h3 aB.1 aB.2 h hv h4
      ·cases he
    ·cases hc
theorem uT {ty:TypeId}{mu:Bool}{l c:X}{vl vc:Value}{b:Bo}(hc:o5 P mu ty l c=some b)(h:SR w0 g H w)(hl:VR g w (l.ev R) vl)(tn:VR g w (c.ev R) vc)(he:ae R H b=some (t,H')):aG P w0 g H w (Instr.makeSlice ty vl vc) t H':=by
 unfold o5 at hc
 cases hu:P.underlying ty with
 | none=>simp[hu]at hc
 | some d =>
  cases d<;>simp only[hu]at hc<;>(try (cases hc;done))
  rename_i e
  cases hi:P.info? e with
  | none=>simp[hi]at hc
  | some ei =>
   cases hz:zeroOf P e with
   | none=>simp[hi,hz]at hc
   | some z =>
    simp only[hi,hz]at hc
    split at hc
    ·rename_i aB
     simp only[Bool.and_eq_true,beq_iff_eq,bne_iff_ne]at aB
     simp at hc;subst hc
     obtain⟨i,zv,h1,h2,h3⟩:=cd hz
     rw[hi]at h1;cases h1
     simp only[ae]at he
     cases Ce:aQ (l.ev R)with
     | none=>simp[Ce]at he
     | some nl =>
      cases C2:aQ (c.ev R)with
      | none=>simp[Ce,C2]at he
      | some nc =>
       simp only[Ce,C2]at he
       split at he
       ·rename_i cM
        refine uw (mu:=mu) hu hi h2 h3 aB.1 aB.2 h hl tn Ce C2 cM.1 cM.2.1 cM.2.2 ?_
        cases mu with
        | true=>simpa using he
        | false =>
         simp only[Bool.false_eq_true,if_false]at he ⊢
         split at he
         ·rename_i e0;rw[if_pos e0];simpa using he
         ·rename_i e0;rw[if_neg e0];simpa using he
       ·cases he
    ·cases hc
theorem RV.get {xs:List Operand}(h:RV g w R ρ xs){x:Operand}{y:X}(hx:x∈xs)(hc:aj x=some y):VR g w (y.ev R) (ρ x):=h x hx y hc
theorem xU {mu:Bool}{o:Oper}{b:Bo}(hρ:∀f:FuncId,ρ (.func f)=.func (.func f) #[] #[])(hc:aA P mu o.op=some b)(h:SR w0 g H w)(hv:RV g w R ρ o.op.operands.toList)(he:ae R H b=some (t,H')):tp P w0 g H w (execOp ρ o) t H':=by
 obtain⟨dst,op,ty,pos,after,guard⟩:=o
 cases op<;>simp only[aA]at hc<;>(try (cases hc;done))<;>simp only[Op.operands]at hv
 case move x =>
  simp only[Option.map_eq_some_iff]at hc
  obtain⟨y,h1,rfl⟩:=hc
  simp only[ae,Option.some.injEq,Prod.mk.injEq]at he
  obtain⟨rfl,rfl⟩:=he
  exact⟨_,_,w,g,rfl,.inl rfl,.refl _ _,h,hv.get (by simp) h1,.refl _ _⟩
 case assign x =>
  simp only[Option.map_eq_some_iff]at hc
  obtain⟨y,h1,rfl⟩:=hc
  simp only[ae,Option.some.injEq,Prod.mk.injEq]at he
  obtain⟨rfl,rfl⟩:=he
  exact⟨_,_,w,g,rfl,.inl rfl,.refl _ _,h,hv.get (by simp) h1,.refl _ _⟩
 case pick c x y =>
  cases h1:aj c with
  | none=>simp[h1]at hc
  | some c' =>
   cases h2:aj x with
   | none=>simp[h1,h2]at hc
   | some x' =>
    cases h3:aj y with
    | none=>simp[h1,h2,h3]at hc
    | some y' =>
     simp only[h1,h2,h3,Option.some.injEq]at hc
     subst hc
     have vc:=hv.get (by simp) h1
     have vx:=hv.get (by simp) h2
     have vy:=hv.get (by simp) h3
     simp only[ae]at he
     generalize c'.ev R=tc at vc he
     cases tc<;>(try simp only[reduceCtorEq]at he)
     simp only[Option.some.injEq,Prod.mk.injEq]at he
     obtain⟨rfl,rfl⟩:=he
     obtain⟨v,w',g',k1,k2⟩:=p4 (P:=P) h vc vx vy
     refine⟨.value v,v,w',g',?_,.inl rfl,k2⟩
     simp only[execOp,Sem.run_bind,Sem.run_pure]at k1 ⊢
     generalize (asBool (ρ c)).run P w=r at k1 ⊢
     cases r<;>simp_all
 case alloc jC =>
  simp only[Option.map_eq_some_iff]at hc
  obtain⟨z,h1,rfl⟩:=hc
  obtain⟨i,zv,h2,h3,h4⟩:=cd h1
  simp only[ae,Option.some.injEq,Prod.mk.injEq]at he
  obtain⟨rfl,rfl⟩:=he
  exact(oV h2 h3 h4 h).fq
 case box jC x =>
  simp only[Option.map_eq_some_iff]at hc
  obtain⟨y,h1,rfl⟩:=hc
  simp only[ae,Option.map_eq_some_iff,Prod.mk.injEq]at he
  obtain⟨cs,h2,rfl,rfl⟩:=he
  exact(uf h (hv.get (by simp) h1) h2).fq
 case build jC ps =>
  simp only[Option.bind_eq_some_iff]at hc
  obtain⟨qs,h1,h2⟩:=hc
  have hp:=gn (ρ:=ρ) _ _ h1 (by simpa using hv)
  have:=(o8 h2 h hp he).fq
  have e:(ps.map fun x=>(x.1,ρ x.2))=(ps.toList.map fun p=>(p.1,ρ p.2)).toArray:=by apply Array.ext';simp
  simp only[execOp]
  rw[e];exact this
 case buildSlice jC n ps =>
  simp only[Option.bind_eq_some_iff]at hc
  obtain⟨qs,h1,h2⟩:=hc
  have hp:=gn (ρ:=ρ) _ _ h1 (by simpa using hv)
  have:=(uS h2 h hp he).fq
  have e:(ps.map fun x=>(x.1,ρ x.2))=(ps.toList.map fun p=>(p.1,ρ p.2)).toArray:=by apply Array.ext';simp
  simp only[execOp]
  rw[e];exact this
 case insert jC m k v =>
  cases h1:aj m with
  | none=>simp[h1]at hc
  | some m' =>
   cases h2:aj k with
   | none=>simp[h1,h2]at hc
   | some k' =>
    cases h3:aj v with
    | none=>simp[h1,h2,h3]at hc
    | some v' =>
     simp only[h1,h2,h3,Option.map_eq_some_iff]at hc
     obtain⟨⟨e,kt,z⟩,h4,rfl⟩:=hc
     exact nO h4 h (hv.get (by simp) h1) (hv.get (by simp) h2) (hv.get (by simp) h3) he
 case mapUpdate jC m k v =>
  cases h1:aj m with
  | none=>simp[h1]at hc
  | some m' =>
   cases h2:aj k with
   | none=>simp[h1,h2]at hc
   | some k' =>
    cases h3:aj v with
    | none=>simp[h1,h2,h3]at hc
    | some v' =>
     simp only[h1,h2,h3,Option.map_eq_some_iff]at hc
     obtain⟨⟨e,kt,z⟩,h4,rfl⟩:=hc
     exact nO h4 h (hv.get (by simp) h1) (hv.get (by simp) h2) (hv.get (by simp) h3) he
 case load jC x =>
  simp only[Option.bind_eq_some_iff]at hc
  obtain⟨y,h1,h2⟩:=hc
  exact qt h2 h (hv.get (by simp) h1) he
 case store jC a v =>
  cases h1:P.info? jC with
  | none=>simp[h1]at hc
  | some i =>
   cases h2:aj a with
   | none=>simp[h1,h2]at hc
   | some a' =>
    cases h3:aj v with
    | none=>simp[h1,h2,h3]at hc
    | some v' =>
     simp only[h1,h2,h3,Option.some.injEq]at hc
     subst hc
     simp only[ae]at he
     cases h4:(v'.ev R).cells? with
     | none=>simp[h4]at he
     | some vs =>
      simp only[h4]at he
      split at he
      ·rename_i hn
       simp only[Option.map_eq_some_iff,Prod.mk.injEq]at he
       obtain⟨H1,h5,rfl,rfl⟩:=he
       obtain⟨w',g',k1,k2,k3,k4⟩:=xE (P:=P) h1 h (hv.get (by simp) h2) (hv.get (by simp) h3) h4 hn h5
       exact⟨.skip,undef,w',g',by simp[execOp,k1],.inr ⟨rfl,rfl⟩,k2,k3,cZ,k4⟩
      ·cases he
 case nilCheck x =>
  simp only[Option.map_eq_some_iff]at hc
  obtain⟨y,h1,rfl⟩:=hc
  have vx:=hv.get (by simp) h1
  simp only[ae]at he
  have key:t=y.ev R∧H'=H∧∃v,(execOp ρ ⟨dst,.nilCheck x,ty,pos,after,guard⟩).run P w=.ok (.value v) w∧v=ρ x:=by
   simp only[execOp]
   generalize y.ev R=tx at vx he
   generalize ρ x=vv at vx
   cases vx<;>simp only[reduceCtorEq,Option.some.injEq,Prod.mk.injEq]at he<;>obtain⟨rfl,rfl⟩:=he<;>exact⟨rfl,rfl,_,rfl,rfl⟩
  obtain⟨rfl,rfl,v,k1,rfl⟩:=key
  exact⟨_,_,w,g,k1,.inl rfl,.refl _ _,h,vx,.refl _ _⟩
 case binOp op jC x y yt =>
  cases h1:aj x with
  | none=>simp[h1]at hc
  | some x' =>
   cases h2:aj y with
   | none=>simp[h1,h2]at hc
   | some y' =>
    simp only[h1,h2]at hc
    exact uJ hc h (hv.get (by simp) h1) (hv.get (by simp) h2) he
 case unOp op jC x =>
  simp only[Option.map_eq_some_iff]at hc
  obtain⟨y,h1,rfl⟩:=hc
  simp only[ae,Option.map_eq_some_iff,Prod.mk.injEq]at he
  obtain⟨t',h2,rfl,rfl⟩:=he
  exact(xu h (hv.get (by simp) h1) h2).fq
 case convert s d x =>
  simp only[Option.bind_eq_some_iff]at hc
  obtain⟨y,h1,h2⟩:=hc
  exact qw h2 h (hv.get (by simp) h1) he
 case makeFunc fn first ep =>
  cases fn<;>simp only[aA]at hc<;>(try (cases hc;done))
  rename_i f
  split at hc
  ·rename_i h0
   simp only[Option.map_eq_some_iff]at hc
   obtain⟨ys,h1,rfl⟩:=hc
   have:first=#[]:=Array.eq_empty_of_size_eq_zero h0
   subst this
   simp only[ae,Option.some.injEq,Prod.mk.injEq]at he
   obtain⟨rfl,rfl⟩:=he
   have fW:=b9 (ρ:=ρ) _ _ h1 (fun x hx=>hv x (by simpa using hx))
   have:=(ux (P:=P) (f:=f) h fW).fq
   have e:ep.map ρ=(ep.toList.map ρ).toArray:=by apply Array.ext';simp
   have e0:(#[]:Array Operand).map ρ=#[]:=by simp
   simp only[execOp]
   rw[e,e0];exact this
  ·cases hc
 case range jC m =>
  cases hu:P.underlying jC with
  | none=>simp[hu]at hc
  | some d =>
   cases d<;>simp only[hu]at hc<;>(try (cases hc;done))
   simp only[Option.map_eq_some_iff]at hc
   obtain⟨y,h1,rfl⟩:=hc
   have vm:=hv.get (by simp) h1
   simp only[ae]at he
   generalize y.ev R=tm at vm he
   cases tm<;>(try (simp only[reduceCtorEq]at he;done))
   rename_i bb
   simp only[Option.map_eq_some_iff,Prod.mk.injEq]at he
   obtain⟨es,h2,rfl,rfl⟩:=he
   exact(uF hu h vm h2).fq
 case next it str =>
  cases str<;>simp only[aA]at hc<;>(try (cases hc;done))
  simp only[Option.map_eq_some_iff]at hc
  obtain⟨y,h1,rfl⟩:=hc
  simp[ae]at he
 case entry it =>
  simp only[Option.map_eq_some_iff]at hc
  obtain⟨y,h1,rfl⟩:=hc
  have vm:=hv.get (by simp) h1
  simp only[ae]at he
  generalize y.ev R=tm at vm he
  cases tm<;>(try (simp only[reduceCtorEq]at he;done))
  rename_i bi off
  cases off with
  | succ _=>simp at he
  | zero =>
   simp only at he
   cases hi:H[bi]? with
   | none=>simp[hi]at he
   | some yi =>
    cases yi<;>simp only[hi]at he<;>(try (cases he;done))
    rename_i bb
    cases hb:H[bb]? with
    | none=>simp[hb]at he
    | some yb =>
     cases yb<;>simp only[hb]at he<;>(try (cases he;done))
     rename_i es ix vX cur
     cases cur with
     | none=>simp at he
     | some c =>
      simp only at he
      split at he
      ·rename_i e;subst e
       simp only[Option.map_eq_some_iff,Prod.mk.injEq]at he
       obtain⟨e,h2,rfl,rfl⟩:=he
       exact(uH h vm hb h2).fq
      ·cases he
 case makeMap jC r =>
  cases r with
  | some _=>simp[aA]at hc
  | none =>
   simp only[aA,Option.some.injEq]at hc
   subst hc
   simp only[ae,Option.some.injEq,Prod.mk.injEq]at he
   obtain⟨rfl,rfl⟩:=he
   exact(ug h).fq
 case makeSlice jC l c =>
  cases h1:aj l with
  | none=>simp[h1]at hc
  | some l' =>
   cases h2:aj c with
   | none=>simp[h1,h2]at hc
   | some c' =>
    simp only[h1,h2]at hc
    exact(uT hc h (hv.get (by simp) h1) (hv.get (by simp) h2) he).fq
 case slice jC x lo hi mx =>
  cases h1:aj x with
  | none=>simp[h1]at hc
  | some x' =>
   cases h2:dU lo with
   | none=>simp[h1,h2]at hc
   | some Iy =>
    cases h3:dU hi with
    | none=>simp[h1,h2,h3]at hc
    | some fV =>
     cases h4:dU mx with
     | none=>simp[h1,h2,h3,h4]at hc
     | some Iz =>
      simp only[h1,h2,h3,h4]at hc
      split at hc
      ·exact uL hc h (hv.get (by simp) h1) (cQ h2 (fun z hz=>hv z (by simp;simp at hz;simp[hz]))) (cQ h3 (fun z hz=>hv z (by simp;simp at hz;simp[hz]))) (cQ h4 (fun z hz=>hv z (by simp;simp at hz;simp[hz]))) he
      ·exact o6 hc h (hv.get (by simp) h1) (cQ h2 (fun z hz=>hv z (by simp;simp at hz;simp[hz]))) (cQ h3 (fun z hz=>hv z (by simp;simp at hz;simp[hz]))) (cQ h4 (fun z hz=>hv z (by simp;simp at hz;simp[hz]))) he
 case fieldAddr jC x f =>
  simp only[Option.bind_eq_some_iff]at hc
  obtain⟨y,h1,h2⟩:=hc
  exact(jB h2 h (hv.get (by simp) h1) he).fq
 case field jC x f =>
  simp only[Option.bind_eq_some_iff]at hc
  obtain⟨y,h1,h2⟩:=hc
  exact(jB h2 h (hv.get (by simp) h1) he).fq
 case indexAddr jC x i =>
  cases h1:aj x with
  | none=>simp[h1]at hc
  | some x' =>
   cases h2:aj i with
   | none=>simp[h1,h2]at hc
   | some i' =>
    simp only[h1,h2]at hc
    exact(nL hc h (hv.get (by simp) h1) (hv.get (by simp) h2) he).fq
 case index jC x i =>
  cases h1:aj x with
  | none=>simp[h1]at hc
  | some x' =>
   cases h2:aj i with
   | none=>simp[h1,h2]at hc
   | some i' =>
    simp only[h1,h2]at hc
    exact(nL hc h (hv.get (by simp) h1) (hv.get (by simp) h2) he).fq
 case lookup jC m k ok =>
  cases h1:aj m with
  | none=>simp[h1]at hc
  | some m' =>
   cases h2:aj k with
   | none=>simp[h1,h2]at hc
   | some k' =>
    simp only[h1,h2,Option.map_eq_some_iff]at hc
    obtain⟨⟨e,kt,z⟩,h4,rfl⟩:=hc
    exact(uR h4 h (hv.get (by simp) h1) (hv.get (by simp) h2) he).fq
 case extract x i =>
  simp only[Option.map_eq_some_iff]at hc
  obtain⟨y,h1,rfl⟩:=hc
  have vx:=hv.get (by simp) h1
  simp only[ae]at he
  generalize y.ev R=tx at vx he
  cases tx<;>(try simp only[reduceCtorEq]at he)
  simp only[Option.map_eq_some_iff,Prod.mk.injEq]at he
  obtain⟨t',h2,rfl,rfl⟩:=he
  exact(ue h vx h2).fq
 case call c =>
  obtain⟨callee,args,dp⟩:=c
  cases callee
  case value cv =>
   cases cv<;>simp only[aA]at hc<;>(try (cases hc;done))
   rename_i f
   split at hc
   ·rename_i n x y mB h1
    simp only[Option.some.injEq]at hc;subst hc
    have fW:=b9 (ρ:=ρ) _ _ h1 (fun x hx=>hv x (by simp[Call.operands];exact .inr (by simpa using hx)))
    simp only[ae]at he
    have hd:=uQ mB h fW he
    simpa[execOp,resolve,hρ,Deferred.ofValue,invoke]using hd
   ·cases hc
  all_goals simp only[aA]at hc<;>(try (cases hc;done))
  rename_i bi
  simp only[Option.bind_eq_some_iff]at hc
  obtain⟨as,h1,h2⟩:=hc
  have fW:=b9 (ρ:=ρ) _ _ h1 (fun x hx=>hv x (by simpa[Call.operands]using hx))
  have e:args.map ρ=(args.toList.map ρ).toArray:=by apply Array.ext';simp
  have e2:dp=dp.toList.toArray:=by simp
  have:=lC (rt:=ty) (cs:=args.map fun | .const _=>true|_=>false) h2 h fW he
  simp only[execOp,resolve,pure_bind,invoke]
  rw[e,e2]
  exact this
end
section
variable {P:Program} {w0 w:World} {g:Ctx} {H:aa}
theorem SR.ku {b r o q:Nat}{x x':Obj}{y y':B}(h:SR w0 g H w)(hb:H[b]?=some y)(hφ:g.φ b=some (r,o,q))(h1:g.κ r 0=.mut b)(hr:w.heap[r]?=some x)(hs:cq x=true)(gO:cq x'=true)
  (kZ:∀w',Le g w g w'→w'.heap[r]?=some x'→kX g w' b y') :
  Le g w g (w.putObj r x')∧SR w0 g (H.set b y') (w.putObj r x')∧Fr g H g (H.set b y'):=by
 have fk:b<H.length:=(List.getElem?_eq_some_iff.1 hb).1
 have tr:Tr w (w.putObj r x') ct (fun r'=>r'=r):=Tr.mP w r hs gO hr
 have le:Le g w g (w.putObj r x'):=Le.cI tr (fun _ _ h=>h) (fun _ _ h=>h) (fun _ _ _ h=>h) (fun _ _ hs=>hs.elim)
 refine⟨le,h.step (fun b'=>b'=b) tr le (fun _ _ hs=>hs.elim) (fun r' hm=>⟨b,by rw[hm];exact h1,rfl⟩) (fun r' j eY=>h.fresh r' j (by simpa[World.putObj]using eY)) (fun b' x hx=>by rw[List.length_set];exact h.gN b' x hx)
  (fun t e x hx=>by rw[List.length_set];exact h.cp t e x hx) (fun _ _ _=>rfl) (fun _ _ _ _=>⟨id,id⟩) (fun _ _ _ _=>rfl) (fun b' x hx=>?_),by simp,fun b' x a _ d=>⟨bE a (by rintro rfl;rw[hφ]at d;cases d),d⟩⟩
 rcases bj fk hx with⟨rfl,rfl⟩|⟨aF,ej⟩
 ·exact .inr (kZ _ le (World.putObj_heap_same (Array.getElem?_eq_some_iff.1 hr).1))
 ·exact .inl ⟨aF,ej⟩
theorem SR.qx {x:Obj}{y:B}(h:SR w0 g H w)(F7:cq x=true)
  (kZ:∀g' w',Le g w g' w'→g'.κ w.heap.size 0=.mut H.length→g'.φ H.length=some (w.heap.size,0,0)→w'.heap[w.heap.size]?=some x→kX g' w' H.length y) :
  ∃g',Le g w g' (w.alloc x)∧SR w0 g' (H++[y]) (w.alloc x)∧Fr g H g' (H++[y])∧g'.φ H.length=some (w.heap.size,0,0):=by
 have jv:=Tr.alloc w x
 have aF:∀r j ow,g.κ r j=ow→ow≠.free→r≠w.heap.size:=by rintro r j ow e hn rfl;exact hn (e▸h.fresh _ j (Nat.le_refl _))
 have zC:=h.tj (b:=H.length) (Nat.le_refl _)
 have le:Le g w ((g.row w.heap.size fun _=>.mut H.length).at H.length (w.heap.size,0,0)) (w.alloc x):=Le.cI jv
  (fun b' x hx=>by simp only[Ctx.at,Ctx.row];split;rename_i e;subst e;rw[zC]at hx;simp at hx;exact hx)
  (fun r o hk=>by simp only[Ctx.row,Ctx.at];rw[if_neg (aF r o _ hk (by simp))];exact hk) (fun _ _ _ h=>h) (fun _ _ hs=>hs.elim)
 refine⟨_,le,?_,⟨by simp,fun b x a _ d=>⟨bh a,?_⟩⟩,by simp[Ctx.at]⟩
 ·refine h.step (fun b'=>b'=H.length) jv le (fun _ _ hs=>hs.elim) (fun _ hm=>hm.elim) (fun r o hr=>?_) (fun b' x hx=>?_) (fun t e x hx=>by have:=h.cp t e x hx;simp;omega) (fun b' _ cU=>?_) (fun r j b' cU=>?_) (fun _ _ _ _=>rfl) (fun b' x hx=>?_)
  ·simp at hr
   simp only[Ctx.row,Ctx.at];rw[if_neg (by omega)];exact h.fresh r o (by omega)
  ·simp only[Ctx.at,Ctx.row]at hx
   split at hx
   ·rename_i e;subst e;simp
   ·have:=h.gN b' x hx;simp;omega
  ·simp only[Ctx.at,Ctx.row];rw[if_neg cU]
  ·constructor<;>intro e<;>simp only[Ctx.row,Ctx.at]<;>rw[if_neg (aF r j _ e (by simp))]<;>exact e
  ·by_cases e:b'=H.length
   ·subst e
    rw[bm]at hx;cases hx
    exact .inr (kZ _ _ le (by simp[Ctx.row,Ctx.at]) (by simp[Ctx.at]) (World.alloc_heap_new w _))
   ·exact .inl ⟨e,aM e hx⟩
 ·have:=(List.getElem?_eq_some_iff.1 a).1
  simp only[Ctx.at,Ctx.row];rw[if_neg (by omega)];exact d
theorem SR.freeze {b:Nat}{cs:List T}(h:SR w0 g H w)(hb:H[b]?=some (.cells cs))(hφ:∃x,g.φ b=some x) :
  ∃g',Le g w g' w∧SR w0 g' (H.set b .dead) w∧Fr g H g' (H.set b .dead)∧∀t v,VR g w t v→VR g' w (mH b cs t) v:=by
 let g':Ctx:={ g with κ:=fun r o=>if g.κ r o=.mut b then .cF else g.κ r o }
 have le:Le g w g' w:=⟨fun _ _ h=>h,fun r o e=>by simp only[g'];rw[e];simp,fun _ _ _ h=>h,fun _ _ _ _ h=>h,rfl⟩
 have fk:b<H.length:=(List.getElem?_eq_some_iff.1 hb).1
 have tr:Tr w w (fun _ _=>False) (fun _=>False):=⟨⟨Nat.le_refl _,fun _ _ _ _=>rfl,fun _ _ _ h=>h,fun _ _ _ _ h=>h,fun _ _ _ _=>rfl,rfl,rfl⟩,fun _ _ _=>rfl⟩
 have sr:SR w0 g' (H.set b .dead) w:=by
  refine h.step (fun b'=>b'=b) tr le (fun _ _ h=>h.elim) (fun _ h=>h.elim) (fun r o hr=>?_) (fun b' x hx=>?_) (fun t e x hx=>?_) (fun _ _ _=>rfl) (fun r j b' aF=>⟨fun e=>?_,fun e=>?_⟩) (fun _ _ _ _=>rfl) (fun b' x hx=>?_)
  ·simp only[g'];rw[h.fresh r o hr];simp
  ·rw[List.length_set];exact h.gN b' x hx
  ·rw[List.length_set];exact h.cp t e x hx
  ·simp only[g'];rw[e,if_neg (by simpa using aF)]
  ·simp only[g'];rw[e,if_neg (by simp)]
  ·rcases bj fk hx with⟨rfl,rfl⟩|⟨aF,ej⟩
   ·exact .inr trivial
   ·exact .inl ⟨aF,ej⟩
 have one:∀t v,VR g w t v→VR g' w (tG b cs t) v:=by
  intro t v hv
  cases t with
  | aP b' off len n =>
   simp only[tG]
   split
   ·rename_i hc
    obtain⟨rfl,hle⟩:=hc
    cases hv with
    | @aP _ _ _ _ r o q cap hp hc hq =>
     obtain⟨c1,c2,c3⟩:=h.dt _ _ hb r o q hp
     have hlen:(dN cs off len n).length=len:=by simp[dN]
     have qv:∀(i j:Nat) (c:List T) (t:T),(dN cs off len n)[i]?=some c→c[j]?=some t→j<n∧i<len∧cs[off+i*n+j]?=some t:=by
      intro i j c t hi hj
      have gj:i<len:=by have:=(List.getElem?_eq_some_iff.1 hi).1;rw[hlen]at this;exact this
      simp only[dN,List.getElem?_map,List.getElem?_range gj,Option.map_some,Option.some.injEq]at hi
      subst hi
      rw[List.getElem?_take]at hj
      split at hj
      ·rename_i Cf
       rw[List.getElem?_drop]at hj
       exact⟨Cf,gj,hj⟩
      ·cases hj
     have key:∀(i j:Nat) (c:List T) (t:T),(dN cs off len n)[i]?=some c→c[j]?=some t→t.one=true∧∃v,w.cell? ⟨r,o+off+i*n+j,none⟩=some v∧VR g w t v∧g.κ r (o+off+i*n+j)=.mut b':=by
      intro i j c t hi hj
      obtain⟨h1,h2,h3⟩:=qv i j c t hi hj
      obtain⟨k1,v,k2,k3⟩:=c3 _ _ h3
      have jc:off+i*n+j<cs.length:=(List.getElem?_eq_some_iff.1 h3).1
      refine⟨k1,v,?_,k3,?_⟩
      ·rw[show o+off+i*n+j=o+(off+i*n+j) by omega];exact k2
      ·exact(c2 (o+off+i*n+j) (by omega) (by omega)).1
     have:=VR.sl (g:=g') (w:=w) (k:=.arg) (es:=dN cs off len n) (r:=r) (o:=o+off) (cap:=cap) (n:=n) (fun i j=>(w.cell? ⟨r,o+off+i*n+j,none⟩).getD undef) trivial (by rw[hlen];exact hc)
      (fun c hP=>by
       obtain⟨i,hi,rfl⟩:=List.mem_map.1 hP
       have hi:=List.mem_range.1 hi
       have:i*n+n≤len*n:=by rw[←Nat.succ_mul];exact Nat.mul_le_mul_right n hi
       rw[List.length_take,List.length_drop];omega)
      (fun i j c t hi hj=>by
       obtain⟨k1,v,k2,_,k4⟩:=key i j c t hi hj
       refine⟨k1,?_,by rw[k2];rfl⟩
       simp only[g'];rw[if_pos k4])
      (fun i j c t hi hj=>by
       obtain⟨_,v,k2,k3,_⟩:=key i j c t hi hj
       rw[k2];exact k3.mono le)
     rw[hlen]at this
     exact this
   ·exact hv.mono le
  | _=>exact hv.mono le
 refine⟨g',le,sr,⟨by simp,fun b' y a _ d=>⟨bE a (by rintro rfl;obtain⟨x,hx⟩:=hφ;rw[hx]at d;cases d),d⟩⟩,fun t v hv=>?_⟩
 cases t with
 | bg vs =>
  cases hv with
  | bg hl h2 =>
   refine .bg (by simpa using hl) fun i t v hi o9=>?_
   rw[List.getElem?_map,Option.map_eq_some_iff]at hi
   obtain⟨t',Gk,rfl⟩:=hi
   exact one _ _ (h2 i t' v Gk o9)
 | _=>exact one _ _ hv
end
section
variable {w0 w:World} {g:Ctx} {H:aa}
theorem SR.uU {b:Nat}{cs:List T}(h:SR w0 g H w)(hb:H[b]?=some (.cells cs))(hφ:∃x,g.φ b=some x) :
  ∃g',Le g w g' w∧SR w0 g' (H.set b (.fz cs)) w∧Fr g H g' (H.set b (.fz cs)):=by
 let g':Ctx:={ g with κ:=fun r o=>if g.κ r o=.mut b then .cF else g.κ r o }
 have le:Le g w g' w:=⟨fun _ _ h=>h,fun r o e=>by simp only[g'];rw[e];simp,fun _ _ _ h=>h,fun _ _ _ _ h=>h,rfl⟩
 have fk:b<H.length:=(List.getElem?_eq_some_iff.1 hb).1
 have tr:Tr w w (fun _ _=>False) (fun _=>False):=⟨⟨Nat.le_refl _,fun _ _ _ _=>rfl,fun _ _ _ h=>h,fun _ _ _ _ h=>h,fun _ _ _ _=>rfl,rfl,rfl⟩,fun _ _ _=>rfl⟩
 have sr:SR w0 g' (H.set b (.fz cs)) w:=by
  refine h.step (fun b'=>b'=b) tr le (fun _ _ h=>h.elim) (fun _ h=>h.elim) (fun r o hr=>?_) (fun b' x hx=>?_) (fun t e x hx=>?_) (fun _ _ _=>rfl) (fun r j b' aF=>⟨fun e=>?_,fun e=>?_⟩) (fun _ _ _ _=>rfl) (fun b' x hx=>?_)
  ·simp only[g'];rw[h.fresh r o hr];simp
  ·rw[List.length_set];exact h.gN b' x hx
  ·rw[List.length_set];exact h.cp t e x hx
  ·simp only[g'];rw[e,if_neg (by simpa using aF)]
  ·simp only[g'];rw[e,if_neg (by simp)]
  ·rcases bj fk hx with⟨rfl,rfl⟩|⟨aF,ej⟩
   ·refine .inr fun r o q hq=>?_
    obtain⟨c1,c2,c3⟩:=h.dt _ _ hb r o q hq
    refine⟨c1,fun i t hi=>?_⟩
    have gj:i<cs.length:=(List.getElem?_eq_some_iff.1 hi).1
    obtain⟨k1,v,k2,k3⟩:=c3 i t hi
    refine⟨k1,v,⟨?_,k2⟩,k3.mono le⟩
    simp only[g'];rw[if_pos (c2 (o+i) (by omega) (by omega)).1]
   ·exact .inl ⟨aF,ej⟩
 exact⟨g',le,sr,⟨by simp,fun b' y a _ d=>⟨bE a (by rintro rfl;obtain⟨x,hx⟩:=hφ;rw[hx]at d;cases d),d⟩⟩⟩
theorem fN (cs:List T)(off len n:Nat):(dN cs off len n).length=len:=by simp[dN]
theorem qy {cs:List T}{off len n i j:Nat}{c:List T}{t:T}(hi:(dN cs off len n)[i]?=some c)(hj:c[j]?=some t):j<n∧i<len∧cs[off+i*n+j]?=some t:=by
 have gj:i<len:=by have:=(List.getElem?_eq_some_iff.1 hi).1;rw[fN]at this;exact this
 simp only[dN,List.getElem?_map,List.getElem?_range gj,Option.map_some,Option.some.injEq]at hi
 subst hi
 rw[List.getElem?_take]at hj
 split at hj
 ·rename_i Cf
  rw[List.getElem?_drop]at hj
  exact⟨Cf,gj,hj⟩
 ·cases hj
theorem SR.uV {b len n:Nat}{cs:List T}{v:Value}(h:SR w0 g H w)(hb:H[b]?=some (.cells cs))(hv:VR g w (.aP b 0 len n) v)(hlen:len*n=cs.length)(h0:0<len) :
  ∃g',Le g w g' w∧SR w0 g' (H.set b (.fz cs)++[.tok len]) w∧Fr g H g' (H.set b (.fz cs)++[.tok len])∧∀v,VR g w (.aP b 0 len n) v→VR g' w (.sl (.own H.length len) (dN cs 0 len n)) v:=by
 obtain⟨r,o,q,hφ⟩:∃r o q,g.φ b=some (r,o,q):=by cases hv with|aP hp=>exact⟨_,_,_,hp⟩
 obtain⟨c1,c2,c3⟩:=h.dt _ _ hb r o q hφ
 have fk:b<H.length:=(List.getElem?_eq_some_iff.1 hb).1
 let g':Ctx:={ g with κ:=fun r' o'=>if g.κ r' o'=.mut b then(if r'=r∧o+cs.length≤o'∧o'<q then .spare H.length else .cF)else g.κ r' o',π:=fun t e=>if t=H.length then(if e=len then some (r,o+cs.length,q)else none)else g.π t e }
 have Gl:∀e,g.π H.length e=none:=fun e=>by
  cases hp:g.π H.length e with
  | none=>rfl
  | some x=>exact absurd (h.cp _ _ _ hp) (Nat.lt_irrefl _)
 have le:Le g w g' w:=⟨fun _ _ h=>h,fun r o e=>by simp only[g'];rw[e];simp,fun t e x hx=>by
  simp only[g'];rw[if_neg (by rintro rfl;rw[Gl]at hx;cases hx)];exact hx,fun _ _ _ _ h=>h,rfl⟩
 have tr:Tr w w (fun _ _=>False) (fun _=>False):=⟨⟨Nat.le_refl _,fun _ _ _ _=>rfl,fun _ _ _ h=>h,fun _ _ _ _ h=>h,fun _ _ _ _=>rfl,rfl,rfl⟩,fun _ _ _=>rfl⟩
 have cF:∀i,i<cs.length→g'.κ r (o+i)=.cF:=fun i hi=>by
  simp only[g'];rw[if_pos (c2 (o+i) (by omega) (by omega)).1,if_neg (by omega)]
 have sr:SR w0 g' (H.set b (.fz cs)++[.tok len]) w:=by
  refine h.step (fun b'=>b'=b∨b'=H.length) tr le (fun _ _ h=>h.elim) (fun _ h=>h.elim) (fun r o hr=>?_) (fun b' x hx=>?_) (fun t e x hx=>?_) (fun _ _ _=>rfl) (fun r j b' aF=>⟨fun e=>?_,fun e=>?_⟩) (fun t e _ ht=>?_) (fun b' x hx=>?_)
  ·simp only[g'];rw[h.fresh r o hr];simp
  ·have:=h.gN b' x hx;simp;omega
  ·simp only[g']at hx
   split at hx
   ·rename_i e;subst e;simp
   ·have:=h.cp t e x hx;simp;omega
  ·simp only[g'];rw[e,if_neg (by simpa using fun e=>aF (.inl e))]
  ·simp only[g'];rw[e,if_neg (by simp)]
  ·simp only[g'];rw[if_neg (fun e=>ht (.inr e))]
  ·by_cases e:b'=H.length
   ·subst e
    have:(H.set b (.fz cs)++[B.tok len])[H.length]?=some (.tok len):=by rw[show H.length=(H.set b (.fz cs)).length by simp];exact bm _ _
    rw[this]at hx;cases hx
    refine .inr ⟨r,o+cs.length,q,by simp[g'],c1,fun j a c=>⟨?_,(c2 j (by omega) c).2⟩,fun e' he=>?_⟩
    ·simp only[g',true_and];rw[if_pos (c2 j (by omega) c).1,if_pos ⟨a,c⟩]
    ·simp only[g',if_true];rw[if_neg (by omega)]
   ·have ej:(H.set b (.fz cs))[b']?=some x:=aM (by simpa using e) hx
    rcases bj fk ej with⟨rfl,rfl⟩|⟨aF,ej⟩
    ·refine .inr fun r' o' q' hq=>?_
     have e1:g.φ b'=some (r',o',q'):=hq
     rw[hφ]at e1;cases e1
     refine⟨c1,fun i t hi=>?_⟩
     have gj:i<cs.length:=(List.getElem?_eq_some_iff.1 hi).1
     obtain⟨k1,v,k2,k3⟩:=c3 i t hi
     exact⟨k1,v,⟨cF i gj,k2⟩,k3.mono le⟩
    ·exact .inl ⟨fun e'=>e'.elim aF e,ej⟩
 refine⟨g',le,sr,⟨by simp,fun b' y a _ d=>⟨bh (bE a (by rintro rfl;rw[hφ]at d;cases d)),d⟩⟩,fun v hv=>?_⟩
 cases hv with
 | @aP _ _ _ _ r1 o1 q1 cap hp hc hq =>
  rw[hφ]at hp;cases hp
  have key:∀(i j:Nat) (c:List T) (t:T),(dN cs 0 len n)[i]?=some c→c[j]?=some t→t.one=true∧∃v,w.cell? ⟨r,o+i*n+j,none⟩=some v∧VR g w t v∧g'.κ r (o+i*n+j)=.cF:=by
   intro i j c t hi hj
   obtain⟨_,_,h3⟩:=qy hi hj
   obtain⟨k1,v,k2,k3⟩:=c3 _ _ h3
   have jc:0+i*n+j<cs.length:=(List.getElem?_eq_some_iff.1 h3).1
   refine⟨k1,v,?_,k3,?_⟩
   ·rw[show o+i*n+j=o+(0+i*n+j) by omega];exact k2
   ·rw[show o+i*n+j=o+(i*n+j) by omega];exact cF _ (by omega)
  have:=VR.sl (g:=g') (w:=w) (k:=.own H.length len) (es:=dN cs 0 len n) (r:=r) (o:=o) (cap:=cap) (n:=n) (fun i j=>(w.cell? ⟨r,o+i*n+j,none⟩).getD undef)
   (by
    rw[fN]
    refine⟨?_,h0⟩
    simp only[g']
    simp only[if_true]
    rw[hlen]
    have:o+cap*n=q:=by omega
    rw[this])
   (by rw[fN];exact hc)
   (fun c hP=>by
    obtain⟨i,hi,rfl⟩:=List.mem_map.1 hP
    have hi:=List.mem_range.1 hi
    have:i*n+n≤len*n:=by rw[←Nat.succ_mul];exact Nat.mul_le_mul_right n hi
    rw[List.length_take,List.length_drop];omega)
   (fun i j c t hi hj=>by
    obtain⟨k1,v,k2,_,k4⟩:=key i j c t hi hj
    exact⟨k1,k4,by rw[k2];rfl⟩)
   (fun i j c t hi hj=>by
    obtain⟨_,v,k2,k3,_⟩:=key i j c t hi hj
    rw[k2];exact k3.mono le)
  rw[fN]at this
  exact this
theorem Vw.ok {t t':T}(hv:Vw H t t')(h:SR w0 g H w):∀v,VR g w t v→VR g w t' v:=by
 induction hv with
 | refl t=>exact fun v hv=>hv
 | @ms b off len n cs es src hb hl hn hle h1 h2 ih =>
  intro v hv
  cases hv with
  | @aP _ _ _ _ r o q cap hp hc hq =>
   have hf:=h.dt _ _ hb r o q hp
   have key:∀(i j:Nat) (c:List T) (t':T),es[i]?=some c→c[j]?=some t'→t'.one=true∧∃v,my g w r (o+off+i*n+j) v∧VR g w t' v:=by
    intro i j c t' hi hj
    obtain⟨k1,k2⟩:=h1 i j c t' hi hj
    obtain⟨_,v,k3,k4⟩:=hf.2 _ _ k1
    exact⟨k2,v,by rw[show o+off+i*n+j=o+(off+i*n+j) by omega];exact k3,ih i j c t' hi hj v k4⟩
   have:=VR.sl (g:=g) (w:=w) (k:=.arg) (es:=es) (r:=r) (o:=o+off) (cap:=cap) (n:=n) (fun i j=>(w.cell? ⟨r,o+off+i*n+j,none⟩).getD undef) trivial (by rw[hl];exact hc) hn
    (fun i j c t' hi hj=>by
     obtain⟨k1,v,k2,_⟩:=key i j c t' hi hj
     refine⟨k1,k2.1,?_⟩
     rw[k2.2];rfl)
    (fun i j c t' hi hj=>by
     obtain⟨_,v,k2,k3⟩:=key i j c t' hi hj
     rw[k2.2];exact k3)
   rw[hl]at this
   exact this
end
def bq (P:Program)(f:FuncId):Bool :=
 match P.funcs[f]? with
 | some fn=>fn.name != "runtime.NumGoroutine"&&fn.body.isSome
 | none=>false
def bH (P:Program)(mu:Bool):Op→Option td
 | .call { callee:=.value (.func f),args,.. }=>if bq P f then(b8 args.toList).map (.call f)else match nK P f,b8 args.toList with
  | some n,some [x,y]=>some (.b (.yN n x y))
  | _,_=>none
 | .call { callee:=.value (.tmp t),args,.. }=>(b8 args.toList).map (.a6 (.r t))
 | op=>(aA P mu op).map .b
def wc:Op→Bool
 | .defer _=>false
 | _=>true
def ba (P:Program)(mu:Bool)(op:Op):Option td:=match bH P mu op with
 | some y=>some y
 | none=>if mu&&wc op then some (.a6 (.c .dh) [])else none
def jD (ops:Array Oper):Option (Nat×Bool)→Option Gd
 | none=>some none
 | some (j,b)=>match (ops[j]?).bind (·.dst)with
  | some d=>some (some (d,b))
  | none=>none
def bn:X→List Nat
 | .r t=>[t]
 | .c _=>[]
def gq:Option X→List Nat
 | some x=>bn x
 | none=>[]
def nP:Bo→List Nat
 | .al x | .un _ x | .fy _ x | .vQ x | .vR _ x | .len _ x | .box x | .ld _ _ x | .ny _ x | .y9 _ _ _ x | .ext _ x | .ka x | .cap x | .vU x | .gL x | .vV x | .zb _ _ x=>bn x
 | .bin _ x y | .eK _ _ x y | .beq _ x y | .eqs _ _ x y | .st _ x y | .ja _ x y | .vS _ _ x y | .za x y | .BX _ _ _ x y | .gW _ _ _ x y | .del _ x y | .app _ _ _ x y | .BZ _ _ _ x y | .mn x y | .mx x y | .tz _ x y | .yN _ x y | .zd _ _ _ x y=>bn x++bn y
 | .pick x y z | .oH _ x y z=>bn x++bn y++bn z
 | .build _ ps=>ps.flatMap fun p=>bn p.2.2
 | .kL _ _ ps | .xi _ _ ps=>ps.flatMap fun p=>bn p.2
 | .xh x lo hi=>bn x++gq lo++gq hi
 | .kM _ x lo hi mx=>bn x++gq lo++gq hi++gq mx
 | .B0 _ x hi=>bn x++bn hi
 | .vT _ l=>l.flatMap bn
 | .alloc _ | .nz=>[]
def lD:td→List Nat
 | .b b=>nP b
 | .call _ as=>as.flatMap bn
 | .a6 f as=>bn f++as.flatMap bn
def e6:Gd→List Nat
 | some (t,_)=>[t]
 | none=>[]
def bP (l:List Operand):List Nat:=l.filterMap fun | .tmp t=>some t|_=>none
def tmpsOf (o:Oper)(op:td)(g:Gd):List Nat:=bP o.op.operands.toList++(e6 g++lD op)
def bW (P:Program)(n:Nat)(ops:Array Oper)(mu:Bool)(o:Oper)(gM:List Rd):Option O :=
 match ba P mu o.op,jD ops o.guard with
 | some op,some g=>if (tmpsOf o op g).all (·<n)&&(o.dst.all (·<n))then some ⟨o.dst,op,g,gM⟩else none
 | _,_=>none
def cj (P:Program)(n:Nat)(ops:Array Oper)(mu:Nat→Bool):List Nat→Option (List O)
 | []=>some []
 | i :: is=>match ops[i]? with
  | some o=>match bW P n ops (mu i) o [],cj P n ops mu is with
   | some o,some l=>some (o :: l)
   | _,_=>none
  | none=>none
def aU (o:Oper):List Nat:=(o.after.toList.filter fun e=>Region.binds .any e).map (·.on)
def dV (acc:List Nat)(o:Oper):Nat:=(aU o).foldl (fun s j=>s ||| 2^j ||| acc.getD j 0) 0
def bM:List Oper→List Nat→List Nat
 | [],acc=>acc
 | o :: l,acc=>bM l (acc++[dV acc o])
inductive Kl where|pure|read|make|we
 deriving DecidableEq
def gu:Bo→Kl
 | .al _ | .pick _ _ _ | .bin _ _ _ | .beq _ _ _ | .eqs _ _ _ _ | .un _ _ | .fy _ _ | .build _ _ | .kL _ _ _ | .ny _ _ | .y9 _ _ _ _ | .ja _ _ _ | .vS _ _ _ _ | .za _ _ | .BX _ _ _ _ _ | .xh _ _ _ | .kM _ _ _ _ _
 | .vT _ _ | .ext _ _ | .mn _ _ | .mx _ _ | .ka _=>.pure
 | .eK _ c _ _=>if c=.slice then .we else .pure
 | .ld _ _ _ | .gW _ _ _ _ _ | .len _ _ | .vQ _=>.read
 | .alloc _ | .nz=>.make
 | _=>.we
def tq (o:O):Kl:=match o.op with
 | .b b=>match o.d with|some _=>gu b|none=>.we
 | _=>.we
structure It where
 i:Nat
 o:O
 early:Bool
 ts:List Nat
def du (b:Nat):List It→List Rd
 | []=>[]
 | y :: l=>match y.early,y.o.d,y.o.op with
  | true,some d,.b op=>if gu op=.read∧b.testBit y.i=false then⟨d,op,y.o.g⟩ :: du b l else du b l
  | _,_,_=>du b l
def mY:Op→Bool
 | .alloc _ | .makeMap _ none=>true
 | _=>false
def qz (b:Nat)(before:List It)(x:It)(oper:Oper):Bool :=
 ((aU oper).all fun j=>decide (j<x.i)&&before.any (·.i==j)) &&
 (before.all fun y=>y.early||b.testBit y.i) &&
 (before.all fun y=>y.i != x.i) &&
 (match x.o.d with
  | some d=>(before.all fun y=>y.o.d != some d&&(!y.ts.contains d||(!x.early&&b.testBit y.i)))&&!x.ts.contains d
  | none=>true) &&
 (before.all fun y=>match y.o.d with
  | some d=>!x.ts.contains d||b.testBit y.i
  | none=>true) &&
 (!x.early||(tq x.o != .we&&(tq x.o != .make||mY oper.op)))
def mZ (P:Program)(n:Nat)(ops:Array Oper)(mu:Nat→Bool)(b:Nat)(before:List It)(x:Nat×Bool):Option It :=
 match ops[x.1]? with
 | some o=>match bW P n ops (mu x.1) o (if x.2 then []else du b before)with
  | some o'=>let y:It:=⟨x.1,o',x.2,tmpsOf o o'.op o'.g⟩
   if qz b before y o then some y else none
  | none=>none
 | none=>none
def bA (P:Program)(n:Nat)(ops:Array Oper)(mu:Nat→Bool)(bs:List Nat)(before:List It):List (Nat×Bool)→Option (List It)
 | []=>if (List.range ops.size).all fun i=>before.any (·.i==i)then some []else none
 | x :: l=>match mZ P n ops mu (bs.getD x.1 0) before x with
  | some y=>(bA P n ops mu bs (before++[y]) l).map (y :: ·)
  | none=>none
structure An where
 mu:List (Nat×Nat)
 ord:List (Nat×List (Nat×Bool))
def aw (P:Program)(n:Nat)(an:An)(top:Bool):Code→Option C
 | .skip=>some .skip
 | .region id ops false=>(cj P n ops (fun i=>an.mu.contains (id,i)) (List.range ops.size)).map .ops
 | .region id ops true=>match an.ord.find? (·.1==id)with
  | some (_,ord)=>(bA P n ops (fun i=>an.mu.contains (id,i)) (bM ops.toList []) [] ord).map fun dK=>.ops (dK.map (·.o))
  | none=>none
 | .seq a b=>match aw P n an top a,aw P n an top b with
  | some a,some b=>some (.seq a b)
  | _,_=>none
 | .cond c a b=>match aj c,aw P n an top a,aw P n an top b with
  | some x,some a,some b=>if (match c with | .tmp t=>decide (t<n)|_=>true)then some (.cond x a b)else none
  | _,_,_=>none
 | .block id a=>(aw P n an top a).map (.block id)
 | .loop a=>(aw P n an top a).map .loop
 | .exit id=>some (.exit id)
 | .ret=>some .ret
 | .rangeFunc g ps bf body=>match aj g,aw P n an false bf,aw P n an false body with
  | some x,some a,some b=>if top&&(bn x).all (·<n)&&ps.toList.all (·<n)then some (.bo n x ps.toList a b)else none
  | _,_,_=>none
 | _=>none
def fO (P:Program):List ResultVar→Option (List Rs)
 | []=>some []
 | .tmp t :: l=>(fO P l).map (.t t :: ·)
 | .cell a t :: l=>match P.underlying t,P.info? t with
  | some d,some i=>(fO P l).map (.cl a (if bC d then i.size else 1) (bC d) :: ·)
  | _,_=>none
def pa (n:Nat):Rs→Bool
 | .t r | .cl r _ _=>r<n
def af (P:Program)(an:An)(f:FuncId):Option Fn :=
 match P.funcs[f]? with
 | some fn=>match fn.body,fO P fn.results.toList with
  | some c,some res=>match aw P fn.ntmps an true c with
   | some c=>if bq P f&&decide (fn.params.size+fn.nfree≤fn.ntmps)&&res.all (pa fn.ntmps)then some ⟨fn.ntmps,fn.params.size+fn.nfree,res,c⟩else none
   | none=>none
  | _,_=>none
 | none=>none
section
variable {R R':ai} {H:aa}
theorem aZ {x:X}(h:∀t∈bn x,R t=R' t):x.ev R=x.ev R':=by
 cases x with
 | r t=>exact h t (by simp[bn])
 | c v=>rfl
theorem eN {x:Option X}{d:Nat}(h:∀t∈gq x,R t=R' t):cT R d x=cT R' d x:=by
 cases x with
 | none=>rfl
 | some x=>simp only[cT];rw[aZ h]
theorem fP:∀(ps:List (Nat×Nat×X)),(∀t∈ps.flatMap (fun p=>bn p.2.2),R t=R' t)→bU R ps=bU R' ps
 | [],_=>rfl
 | (off,n,x) :: ps,h=>by
  simp only[bU]
  rw[aZ (x:=x) (R':=R') (fun t ht=>h t (by simp[ht])),fP ps (fun t ht=>h t (by rw[List.flatMap_cons];exact List.mem_append_right _ ht))]
theorem gG (n:Nat):∀(ps:List (Nat×X)) (es:List (List T)),(∀t∈ps.flatMap (fun p=>bn p.2),R t=R' t)→dz n es R ps=dz n es R' ps
 | [],_,_=>rfl
 | (i,x) :: ps,es,h=>by
  simp only[dz]
  rw[aZ (x:=x) (R':=R') (fun t ht=>h t (by simp[ht]))]
  split
  ·split
   ·exact gG n ps _ (fun t ht=>h t (by rw[List.flatMap_cons];exact List.mem_append_right _ ht))
   ·rfl
  ·rfl
theorem gH (n:Nat):∀(ps:List (Nat×X)) (es:List (List T)),(∀t∈ps.flatMap (fun p=>bn p.2),R t=R' t)→dA n es R ps=dA n es R' ps
 | [],_,_=>rfl
 | (i,x) :: ps,es,h=>by
  simp only[dA]
  rw[aZ (x:=x) (R':=R') (fun t ht=>h t (by simp[ht]))]
  split
  ·split
   ·exact gH n ps _ (fun t ht=>h t (by rw[List.flatMap_cons];exact List.mem_append_right _ ht))
   ·rfl
  ·rfl
theorem ir:∀(l:List X),(∀t∈l.flatMap bn,R t=R' t)→l.map (X.ev R)=l.map (X.ev R')
 | [],_=>rfl
 | x :: l,h=>by
  simp only[List.map_cons]
  rw[aZ (x:=x) (R':=R') (fun t ht=>h t (by simp[ht])),ir l (fun t ht=>h t (by rw[List.flatMap_cons];exact List.mem_append_right _ ht))]
theorem iu {b:Bo}(h:∀t∈nP b,R t=R' t):ae R H b=ae R' H b:=by
 cases b<;>simp only[nP,List.mem_append]at h
 case build z ps=>simp only[ae];rw[fP ps h]
 case kL n z ps=>simp only[ae];rw[gG _ ps _ h]
 case xi n z ps=>simp only[ae];rw[gH _ ps _ h]
 case vT f l=>simp only[ae,vW];rw[ir l h]
 case alloc=>rfl
 case nz=>rfl
 case xh x lo hi =>
  have h1:=aZ (x:=x) (R:=R) (R':=R') (fun t ht=>h t (.inl (.inl ht)))
  have h2:=fun d=>eN (x:=lo) (d:=d) (R:=R) (R':=R') (fun t ht=>h t (.inl (.inr ht)))
  have h3:=fun d=>eN (x:=hi) (d:=d) (R:=R) (R':=R') (fun t ht=>h t (.inr ht))
  simp only[ae,h1,h2,h3]
 case kM n x lo hi mx =>
  have hm:∀m,mx=some m→m.ev R=m.ev R':=fun m e=>aZ (fun t ht=>h t (.inr (by subst e;exact ht)))
  have h1:=aZ (x:=x) (R:=R) (R':=R') (fun t ht=>h t (.inl (.inl (.inl ht))))
  have h2:=fun d=>eN (x:=lo) (d:=d) (R:=R) (R':=R') (fun t ht=>h t (.inl (.inl (.inr ht))))
  have h3:=fun d=>eN (x:=hi) (d:=d) (R:=R) (R':=R') (fun t ht=>h t (.inl (.inr ht)))
  simp only[ae,h1,h2,h3]
  cases mx with
  | none =>
   cases x.ev R' with
   | sl k es=>dsimp only;cases cT R' 0 lo with
    | none=>rfl
    | some l=>cases cT R' es.length hi<;>rfl
   | aP b off len n'=>rfl
   | _=>rfl
  | some m =>
   cases x.ev R' with
   | sl k es=>dsimp only;cases cT R' 0 lo with
    | none=>rfl
    | some l=>cases cT R' es.length hi with
     | none=>rfl
     | some h=>dsimp only;rw[hm m rfl]
   | aP b off len n'=>rfl
   | _=>rfl
 all_goals first
  | (simp only[ae,aZ h];done)
  | (rename_i x;simp only[ae];rw[aZ (x:=x) (R':=R') h])
  | (rename_i x y;simp only[ae];rw[aZ (x:=x) (R':=R') (fun t ht=>h t (.inl ht)),aZ (x:=y) (R':=R') (fun t ht=>h t (.inr ht))])
  | (rename_i x y z;simp only[ae];rw[aZ (x:=x) (R':=R') (fun t ht=>h t (.inl (.inl ht))),aZ (x:=y) (R':=R') (fun t ht=>h t (.inl (.inr ht))),aZ (x:=z) (R':=R') (fun t ht=>h t (.inr ht))])
theorem eD {g:Gd}(h:∀t∈e6 g,R t=R' t):au R g=au R' g:=by
 cases g with
 | none=>rfl
 | some p=>obtain⟨t,b⟩:=p;simp only[au];rw[h t (by simp[e6])]
theorem lE {b:Bo}(hk:gu b=.pure)(H2:aa):ae R H2 b=(ae R H b).map fun p=>(p.1,H2):=by
 cases b<;>simp only[gu]at hk<;>(try (cases hk;done))<;>simp only[ae]
 case kM n x lo hi mx =>
  cases x.ev R with
  | sl k es =>
   dsimp only
   cases cT R 0 lo with
   | none=>rfl
   | some l=>cases cT R es.length hi with
    | none=>rfl
    | some h=>cases mx with
     | none=>dsimp only;split<;>rfl
     | some m=>dsimp only;cases aQ (m.ev R)with
      | none=>rfl
      | some m=>dsimp only;split<;>rfl
  | aP b off len n' =>
   dsimp only
   cases cT R 0 lo with
   | none=>rfl
   | some l=>cases cT R len hi with
    | none=>rfl
    | some h=>cases mx with
     | none=>dsimp only;split<;>rfl
     | some m=>rfl
  | bT b off len n' c =>
   dsimp only
   cases cT R 0 lo with
   | none=>rfl
   | some l=>cases cT R len hi with
    | none=>rfl
    | some h=>cases mx with
     | none=>dsimp only;split<;>rfl
     | some m=>rfl
  | _=>rfl
 all_goals (try rfl)
 all_goals (try (simp[Option.map_map,Function.comp_def];done))
 all_goals (try (simp[Option.map_map,Option.map_bind,Function.comp_def];done))
 all_goals (repeat' split)
 all_goals (try (simp_all [Option.map_map,Function.comp_def];done))
theorem eO {b:Bo}{v:T}{H':aa}(hk:gu b=.pure)(h:ae R H b=some (v,H')):H'=H∧∀H2,ae R H2 b=some (v,H2):=by
 constructor
 ·have h1:=lE (R:=R) (H:=H) hk H
  rw[h]at h1;simp at h1;exact h1
 ·intro H2;rw[lE (H:=H) hk H2,h];rfl
theorem cN {l:aa}{b:Nat}{x:B}(h:H[b]?=some x):(H++l)[b]?=some x:=by
 rw[List.getElem?_append_left (List.getElem?_eq_some_iff.1 h).1];exact h
theorem uW {n:Nat}{t:T}{cs:List T}(l:aa)(h:gD H n t=some cs):gD (H++l) n t=some cs:=by
 unfold gD at *
 cases t<;>simp only[]at h ⊢<;>try (first|exact h|cases h)
 rename_i b off
 cases hb:H[b]? with
 | none=>simp[hb]at h
 | some x=>rw[hb]at h;rw[cN hb];exact h
theorem pb {t:T}{es:List (T×T)}(l:aa)(h:cn H t=some es):cn (H++l) t=some es:=by
 unfold cn at *
 cases t<;>simp only[]at h ⊢<;>try (first|exact h|cases h)
 rename_i b
 cases hb:H[b]? with
 | none=>simp[hb]at h
 | some x=>rw[hb]at h;rw[cN hb];exact h
theorem qA {t:T}{k:Lc}{n:Nat}(l:aa)(h:dB H k t=some n):dB (H++l) k t=some n:=by
 unfold dB at *
 cases k<;>cases t<;>simp only[]at h ⊢<;>try (first|exact h|cases h)
 rename_i b
 cases hb:H[b]? with
 | none=>simp[hb]at h
 | some x=>rw[hb]at h;rw[cN hb];exact h
theorem lF {t:T}{n:Nat}{es:List (List T)}(l:aa)(h:aH H n t=some es):aH (H++l) n t=some es:=by
 unfold aH at *
 cases t<;>simp only[]at h ⊢<;>try (first|exact h|cases h)
 rename_i b off len n'
 cases hb:H[b]? with
 | none=>simp[hb]at h
 | some x=>rw[hb]at h;rw[cN hb];exact h
theorem eP {b:Bo}{v:T}{H':aa}(hk:gu b=.read)(h:ae R H b=some (v,H')):H'=H∧∀l,ae R (H++l) b=some (v,H++l):=by
 cases b<;>simp only[gu]at hk<;>(try (cases hk;done))<;>simp only[ae]at h ⊢
 case eK=>split at hk<;>cases hk
 case vQ x =>
  cases he:aH H 1 (x.ev R)with
  | none=>simp[he]at h
  | some es =>
   rw[he]at h
   refine⟨?_,fun l=>?_⟩
   ·dsimp only at h;split at h
    ·cases h
    ·simp only[Option.map_eq_some_iff,Prod.mk.injEq]at h;obtain⟨_,_,_,e⟩:=h;exact e.symm
   ·rw[lF l he]
    dsimp only at h ⊢;split at h
    ·cases h
    ·simp only[Option.map_eq_some_iff,Prod.mk.injEq]at h ⊢
     obtain⟨a,h1,h2,_⟩:=h
     rename_i aF
     exact⟨a,h1,h2,trivial⟩
 case len k x =>
  simp only[Option.map_eq_some_iff,Prod.mk.injEq]at h ⊢
  obtain⟨a,h1,h2,h3⟩:=h
  exact⟨h3.symm,fun l=>⟨a,qA l h1,h2,trivial⟩⟩
 case ld n ag x =>
  cases he:gD H n (x.ev R)with
  | none=>simp[he]at h
  | some cs =>
   simp only[he,Option.map_eq_some_iff,Prod.mk.injEq]at h
   obtain⟨a,h1,h2,h3⟩:=h
   exact⟨h3.symm,fun l=>by simp[uW l he,h1,h2]⟩
 case gW kt z ok m k =>
  split at h
  ·rename_i hh
   simp only[hh,if_true]
   cases he:cn H (m.ev R)with
   | none=>simp[he]at h
   | some es =>
    simp only[he]at h
    simp only[pb _ he]
    split at h
    ·split at h
     ·cases h;exact⟨rfl,fun l=>rfl⟩
     ·cases h
    ·cases h;exact⟨rfl,fun l=>rfl⟩
    ·cases h
  ·cases h
end
theorem lG:∀(l:List Oper) (acc:List Nat),∃rest,bM l acc=acc++rest∧rest.length=l.length
 | [],acc=>⟨[],by simp[bM],rfl⟩
 | o :: l,acc=>by
  obtain⟨r,h,hl⟩:=lG l (acc++[dV acc o])
  exact⟨dV acc o :: r,by simp[bM,h],by simp[hl]⟩
theorem lH:∀(l:List Oper) (acc:List Nat) (k:Nat) (o:Oper),l[k]?=some o→(bM l acc)[acc.length+k]?=some (dV ((bM l acc).take (acc.length+k)) o)
 | [],_,_,_,h=>by simp at h
 | x :: l,acc,0,o,h=>by
  simp at h;subst h
  obtain⟨r,h,_⟩:=lG l (acc++[dV acc x])
  simp[bM,h]
 | x :: l,acc,k+1,o,h=>by
  have:=lH l (acc++[dV acc x]) k o (by simpa using h)
  simp only[List.length_append,List.length_singleton]at this
  simp only[bM]
  rw[show acc.length+(k+1)=acc.length+1+k by omega]
  exact this
theorem jE (acc:List Nat)(t:Nat):∀(l:List Nat) (s:Nat),(l.foldl (fun s j=>s ||| 2^j ||| acc.getD j 0) s).testBit t=true→s.testBit t=true∨∃j∈l,t=j∨(acc.getD j 0).testBit t=true
 | [],s,h=>.inl h
 | x :: l,s,h=>by
  rcases jE acc t l _ h with h|⟨j,hj,h⟩
  ·simp only[Nat.testBit_or,Bool.or_eq_true,Nat.testBit_two_pow,decide_eq_true_eq]at h
   rcases h with(h|h)|h
   ·exact .inl h
   ·exact .inr ⟨x,by simp,.inl h.symm⟩
   ·exact .inr ⟨x,by simp,.inr h⟩
  ·exact .inr ⟨j,by simp[hj],h⟩
theorem lI {acc:List Nat}{o:Oper}{t:Nat}(h:(dV acc o).testBit t=true):∃j∈aU o,t=j∨(acc.getD j 0).testBit t=true:=by
 rcases jE acc t _ _ h with h|h
 ·simp at h
 ·exact h
theorem lJ {ops:Array Oper}{D:Nat→Prop}(hD:∀i o,ops[i]?=some o→D i→∀j∈aU o,j<i∧D j) :
  ∀(i:Nat) (o:Oper) (t:Nat),ops[i]?=some o→(∀j∈aU o,j<i∧D j)→((bM ops.toList []).getD i 0).testBit t=true→D t:=by
 intro i
 induction i using Nat.strongRecOn with
 | _ i ih =>
  intro o t ho hp hb
  have h1:=lH ops.toList [] i o (by simpa using ho)
  simp only[List.length_nil,Nat.zero_add]at h1
  rw[List.getD_eq_getElem?_getD,h1,Option.getD_some]at hb
  obtain⟨j,hj,h⟩:=lI hb
  obtain⟨aC,Fi⟩:=hp j hj
  rcases h with rfl|h
  ·exact Fi
  ·rw[List.getD_eq_getElem?_getD,List.getElem?_take,if_pos aC,←List.getD_eq_getElem?_getD]at h
   have gj:i<ops.size:=(Array.getElem?_eq_some_iff.1 ho).1
   have Fj:ops[j]?=some ops[j]:=Array.getElem?_eq_getElem (Nat.lt_trans aC gj)
   exact ih j aC ops[j] t Fj (fun k hk=>hD j _ Fj Fi k hk) h
def Fw (r:Option Nat):Fence:={ fn:=fun _=>True,depth:=none,alive:=false,round:=r }
theorem lK {r r':Option Nat}{n:Nat}{P:Program}{f:FuncId}{args:Array Value}{w:World}{K:Ending→World→Prop}(h:CallsIn (Fw r) n P f args w K):CallsIn (Fw r') n P f args w K:=h
section
variable {P:Program} {w0 w:World} {g:Ctx} {H H':aa} {R:ai} {a:Act} {n:Nat} {ops:Array Oper}
theorem aq {mu:Bool}{o:Oper}{st:List Rd}{y:O}(h:bW P n ops mu o st=some y):∃op gd,ba P mu o.op=some op∧jD ops o.guard=some gd∧y=⟨o.dst,op,gd,st⟩ ∧
  (∀t∈tmpsOf o op gd,t<n)∧∀d,o.dst=some d→d<n:=by
 unfold bW at h
 cases h1:ba P mu o.op with
 | none=>simp[h1]at h
 | some op=>cases h2:jD ops o.guard with
  | none=>simp[h1,h2]at h
  | some gd =>
   simp only[h1,h2]at h
   split at h
   ·rename_i hh
    simp only[Bool.and_eq_true,List.all_eq_true,decide_eq_true_eq]at hh
    exact⟨op,gd,rfl,rfl,(Option.some.inj h).symm,hh.1,fun d hd=>by have:=hh.2;simp[hd]at this;exact this⟩
   ·cases h
def cw (g:Ctx)(w:World)(R:ai)(a:Act)(ts:List Nat):Prop:=∀t∈ts,VR g w (R t) (a.tmps.getD t undef)
theorem cw.sub {ts xo:List Nat}(h:cw g w R a ts)(hs:∀t∈xo,t∈ts):cw g w R a xo:=fun t ht=>h t (hs t ht)
theorem jF {l:List Operand}(h:cw g w R a (bP l)):RV g w R a.eval l:=by
 intro x hx y hy
 cases x with
 | tmp t=>simp only[aj,Option.some.injEq]at hy;subst hy;exact h t (by simp only[bP,List.mem_filterMap];exact⟨_,hx,rfl⟩)
 | const v =>
  simp only[aj,Option.map_eq_some_iff]at hy
  obtain⟨t,h1,rfl⟩:=hy
  exact eL h1
 | «global» x=>simp[aj]at hy
 | func f=>simp only[aj,Option.some.injEq]at hy;subst hy;exact .fn rfl (by simp)
theorem gv {o:Oper}{gd:Gd}(hg:jD ops o.guard=some gd)(hn:a.tmps.size=n)(hd:∀t∈e6 gd,t<n)(h:cw g w R a (e6 gd)):Region.wanted o (yielded ops a.tmps)=au R gd:=by
 unfold Region.wanted
 cases ho:o.guard with
 | none=>rw[ho]at hg;simp only[jD,Option.some.injEq]at hg;subst hg;rfl
 | some p =>
  obtain⟨j,b⟩:=p
  rw[ho]at hg
  simp only[jD]at hg
  cases eU:(ops[j]?).bind (·.dst)with
  | none=>simp[eU]at hg
  | some d =>
   simp only[eU,Option.some.injEq]at hg;subst hg
   have hv:=h d (by simp[e6])
   have aC:d<a.tmps.size:=by rw[hn];exact hd d (by simp[e6])
   simp only[yielded,eU,Option.bind_some,au]
   rw[Array.getD_eq_getD_getElem?,Array.getElem?_eq_getElem aC,Option.getD_some]at hv
   rw[Array.getElem?_eq_getElem aC]
   generalize R d=t at *
   generalize a.tmps[d]=v at *
   cases hv<;>simp
theorem dW {mu:Bool}{o:Op}{y:td}(h:ba P mu o=some y):bH P mu o=some y∨(y=.a6 (.c .dh) []∧wc o=true):=by
 unfold ba at h
 split at h
 ·rename_i e;cases h;exact .inl e
 ·split at h
  ·rename_i hc;cases h
   simp only[Bool.and_eq_true]at hc
   exact .inr ⟨rfl,hc.2⟩
  ·cases h
theorem cR {mu:Bool}{o:Op}{op:td}(h:ba P mu o=some op):∀c,o≠.defer c:=by
 rintro c rfl
 rcases dW h with h|⟨_,h⟩
 ·simp[bH,aA]at h
 ·cases h
theorem dF {mu:Bool}{o:Op}{b:Bo}(h:ba P mu o=some (.b b)):aA P mu o=some b:=by
 replace h:=(dW h).resolve_right fun e=>by cases e.1
 unfold bH at h
 split at h
 ·split at h
  ·simp only[Option.map_eq_some_iff]at h;obtain⟨_,_,h⟩:=h;cases h
  ·split at h
   ·rename_i h1 h2
    cases h
    simp only[aA,h1,h2]
   ·cases h
 ·simp only[Option.map_eq_some_iff]at h;obtain⟨_,_,h⟩:=h;cases h
 ·simp only[Option.map_eq_some_iff]at h;obtain⟨x,h1,h⟩:=h;cases h;exact h1
theorem qB {r:Option Nat}{mu:Bool}{o:Oper}{b:Bo}{t:T}(hc:ba P mu o.op=some (.b b))(h:SR w0 g H w)(hr:cw g w R a (bP o.op.operands.toList))(he:ae R H b=some (t,H')) :
  ∃v w' g',(∀(K:Act→World→Prop) (Q:Exit→Act→World→Prop),K (a.put o.dst v) w'→o.wpIn (Fw r) 0 P a w K Q)∧Le g w g' w'∧SR w0 g' H' w'∧VR g' w' t v∧Fr g H g' H':=by
 obtain⟨nx,v,w',g',h1,h2,h3⟩:=xU (fun _=>rfl) (dF hc) h (jF hr) he
 refine⟨v,w',g',fun K Q hk=>⟨fun _ _=>trivial,?_⟩,h3⟩
 rw[Oper.semAt_eq _ _ _ (cR hc),h1]
 rcases h2 with rfl|⟨rfl,rfl⟩
 ·exact hk
 ·exact hk
theorem m0 {mu:Bool}{o:Op}{x:X}(h:aA P mu o=some (.gL x)):∃it,o=.next it false∧aj it=some x:=by
 cases o
 case next it str =>
  cases str<;>simp only[aA]at h<;>(try (cases h;done))
  simp only[Option.map_eq_some_iff,Bo.gL.injEq]at h
  obtain⟨y,h1,rfl⟩:=h
  exact⟨it,rfl,h1⟩
 case range ty m =>
  simp only[aA]at h
  split at h
  ·simp only[Option.map_eq_some_iff]at h;obtain⟨_,_,h⟩:=h;cases h
  ·cases h
 case makeMap ty r =>
  cases r<;>simp only[aA]at h<;>cases h
 case makeFunc fn first ep =>
  cases fn<;>simp only[aA]at h<;>(try (cases h;done))
  split at h
  ·simp only[Option.map_eq_some_iff]at h;obtain⟨_,_,h⟩:=h;cases h
  ·cases h
 case call c =>
  obtain⟨callee,args,dp⟩:=c
  cases callee
  case value x =>
   cases x<;>simp only[aA]at h<;>(try (cases h;done))
   split at h<;>cases h
  case builtin b =>
   simp only[aA,Option.bind_eq_some_iff]at h
   obtain⟨l,_,h⟩:=h
   unfold dE at h
   split at h
   ·have hz:∀tl l b',lz P tl l=some b'→b'≠.gL x:=by
     rintro tl l b' hb rfl
     simp only[lz]at hb
     (repeat' split at hb)<;>first|(cases hb;done)|(simp at hb;done)
    split at h
    ·rename_i b' hb;exact absurd (Option.some.inj h) (hz _ _ _ hb)
    ·simp only[eM]at h
     (repeat' split at h)<;>first|(cases h;done)|(simp at h;done)
   all_goals ((repeat' split at h)<;>first|(cases h;done)|(simp at h;done))
  all_goals (simp only[aA]at h;cases h)
 all_goals simp only[aA]at h
 all_goals first|(cases h;done)|(simp only[Option.map_eq_some_iff]at h;obtain⟨_,_,h⟩:=h;cases h;done)|skip
 all_goals (try simp only[Option.bind_eq_some_iff]at h)
 all_goals (try (obtain⟨_,_,h⟩:=h))
 all_goals (try simp only[qp,jA,jz,fp,mV,gk,o3,gm,o4,o5,mW]at h)
 all_goals first|((repeat' split at h)<;>first|(cases h;done)|(simp at h;done))|skip
theorem qC {r:Option Nat}{mu:Bool}{o:Oper}{x:X}{b bi:Nat}{es:List (T×T)}{ix:List Nat}{cur:Option Nat}(hc:ba P mu o.op=some (.b (.gL x)))(h:SR w0 g H w)(hr:cw g w R a (bP o.op.operands.toList))
  (hx:x.ev R=.ptr bi 0) (hb:H[b]?=some (.cm es ix bi cur)) :
  ∃t H' v w' g',fD H b bi es ix t H'∧(∀(K:Act→World→Prop) (Q:Exit→Act→World→Prop),K (a.put o.dst v) w'→o.wpIn (Fw r) 0 P a w K Q)∧Le g w g' w'∧SR w0 g' H' w'∧VR g' w' t v∧Fr g H g' H':=by
 have jy:=cR hc
 obtain⟨it,ho,h1⟩:=m0 (dF hc)
 have hv:=jF hr it (by rw[ho];simp[Op.operands]) x h1
 rw[hx]at hv
 obtain⟨t,H',hn,v,w',g',aJ,h3⟩:=uG (P:=P) (ty:=o.type) h hv hb
 refine⟨t,H',v,w',g',hn,fun K Q hk=>⟨fun _ _=>trivial,?_⟩,h3⟩
 rw[Oper.semAt_eq _ _ _ jy]
 have e:(execOp a.eval o).run P w=.ok (.value v) w':=by
  obtain⟨dst,op,ty,pos,after,guard⟩:=o
  simp only at ho;subst ho
  simp[execOp,aJ]
 rw[e]
 exact hk
theorem dX {f:FuncId}{args:Array Value}(hf:bq P f=true):(callFunc f args).run P w=.ok (.enter f args) w:=by
 unfold bq at hf
 cases h:P.funcs[f]? with
 | none=>simp[h]at hf
 | some fn =>
  simp only[h,Bool.and_eq_true,bne_iff_ne,ne_eq]at hf
  obtain⟨c,hb⟩:=Option.isSome_iff_exists.1 hf.2
  simp[callFunc,h,hf.1,hb]
def m5 (r:Option Nat)(P:Program)(o:Oper)(a:Act)(K:Act→World→Prop):Ending→World→Prop:=fun e w'=>∃v,e=.returned v∧K (a.put o.dst v) w'
theorem upon_enter {r:Option Nat}{o:Oper}{f:FuncId}{args:Array Value}{K:Act→World→Prop}{Q:Exit→Act→World→Prop}(h:CallsIn (Fw none) 0 P f args w (m5 r P o a K)) :
  o.uponIn (Fw r) 0 P a K Q (.ok (.enter f args) w):=by
 rw[Oper.uponIn_enter]
 refine⟨fun h=>by simp[Fw]at h,(lK h).mono fun e w' he=>?_⟩
 obtain⟨v,rfl,hk⟩:=he
 exact hk
theorem kv {mu:Bool}{op:Op}{f:Nat}{as:List X}(h:ba P mu op=some (.call f as)) :
  ∃args dp,op=.call { callee:=.value (.func f),args:=args,argTypes:=dp }∧bq P f=true∧b8 args.toList=some as:=by
 replace h:=(dW h).resolve_right fun e=>by cases e.1
 cases op
 case call c =>
  obtain⟨callee,args,dp⟩:=c
  cases callee
  case value x =>
   cases x
   case func f' =>
    simp only[bH]at h
    split at h
    ·rename_i hc
     simp only[Option.map_eq_some_iff]at h
     obtain⟨te,h1,h2⟩:=h
     cases h2
     exact⟨args,dp,rfl,hc,h1⟩
    ·split at h<;>cases h
   all_goals simp[bH,aA]at h
  all_goals (simp only[bH,Option.map_eq_some_iff]at h;obtain⟨_,_,h⟩:=h;cases h)
 all_goals (simp only[bH,Option.map_eq_some_iff]at h;obtain⟨_,_,h⟩:=h;cases h)
theorem e7 {mu:Bool}{op:Op}{x:X}{as:List X}(h:ba P mu op=some (.a6 x as))(hx:x≠.c .dh) :
  ∃t args dp,x=.r t∧op=.call { callee:=.value (.tmp t),args:=args,argTypes:=dp }∧b8 args.toList=some as:=by
 replace h:=(dW h).resolve_right fun e=>by cases e.1;exact hx rfl
 cases op
 case call c =>
  obtain⟨callee,args,dp⟩:=c
  cases callee
  case value x =>
   cases x
   case tmp t =>
    simp only[bH,Option.map_eq_some_iff]at h
    obtain⟨te,h1,h2⟩:=h
    cases h2
    exact⟨t,args,dp,rfl,rfl,h1⟩
   case func f' =>
    simp only[bH]at h
    split at h
    ·simp only[Option.map_eq_some_iff]at h
     obtain⟨te,h1,h2⟩:=h
     cases h2
    ·split at h<;>cases h
   all_goals simp[bH,aA]at h
  all_goals (simp only[bH,Option.map_eq_some_iff]at h;obtain⟨_,_,h⟩:=h;cases h)
 all_goals (simp only[bH,Option.map_eq_some_iff]at h;obtain⟨_,_,h⟩:=h;cases h)
theorem pc {r:Option Nat}{mu:Bool}{o:Oper}{f:Nat}{as:List X}(hc:ba P mu o.op=some (.call f as))(hr:cw g w R a (bP o.op.operands.toList)) :
  ∃args:List Value,ax g w (as.map (X.ev R)) args ∧
   ∀(K:Act→World→Prop) (Q:Exit→Act→World→Prop),bq P f=true→CallsIn (Fw none) 0 P f args.toArray w (m5 r P o a K)→o.wpIn (Fw r) 0 P a w K Q:=by
 have jy:=cR hc
 obtain⟨args,dp,ho,dv,h1⟩:=kv hc
 have hv:=b9 (ρ:=a.eval) args.toList as h1 (jF (hr.sub fun t ht=>by
  simp only[bP,List.mem_filterMap]at ht ⊢
  obtain⟨x,hx,e⟩:=ht
  exact⟨x,by rw[ho];simp only[Op.operands,Call.operands];simp at hx;simp[hx],e⟩))
 refine⟨args.toList.map a.eval,hv,fun K Q _ hk=>⟨fun _ _=>trivial,?_⟩⟩
 rw[Oper.semAt_eq _ _ _ jy]
 have aJ:(execOp a.eval o).run P w=.ok (.enter f (args.toList.map a.eval).toArray) w:=by
  have:=dX (P:=P) (w:=w) (args:=(args.toList.map a.eval).toArray) dv
  have e2:(args.toList.map a.eval).toArray=args.map a.eval:=by rw[←Array.toList_map]
  rw[e2]at this ⊢
  simp only[execOp,ho,resolve,Act.eval,Deferred.ofValue,invoke]
  simpa using this
 rw[aJ]
 exact upon_enter hk
theorem m6 {r:Option Nat}{mu:Bool}{o:Oper}{x:X}{f:Nat}{cs:List T}{as:List X}(hc:ba P mu o.op=some (.a6 x as))(hr:cw g w R a (bP o.op.operands.toList))(hx:x.ev R=.fn f cs) :
  ∃args:List Value,ax g w (as.map (X.ev R)++cs) args ∧
   ∀(K:Act→World→Prop) (Q:Exit→Act→World→Prop),bq P f=true→CallsIn (Fw none) 0 P f args.toArray w (m5 r P o a K)→o.wpIn (Fw r) 0 P a w K Q:=by
 have jy:=cR hc
 obtain⟨t,args,dp,rfl,ho,h1⟩:=e7 hc (by rintro rfl;cases hx)
 have hv:=b9 (ρ:=a.eval) args.toList as h1 (jF (hr.sub fun t ht=>by
  simp only[bP,List.mem_filterMap]at ht ⊢
  obtain⟨x,hx,e⟩:=ht
  exact⟨x,by rw[ho];simp only[Op.operands,Call.operands];simp at hx;simp[hx],e⟩))
 have hf:=hr t (by rw[ho];simp only[bP,List.mem_filterMap];exact⟨.tmp t,by simp[Op.operands,Call.operands],rfl⟩)
 simp only[X.ev]at hx
 rw[hx]at hf
 generalize o9:a.tmps.getD t undef=vf at hf
 cases hf with
 | @fn _ _ vs hl kN =>
  refine⟨args.toList.map a.eval++vs.toList,hv.append ⟨by simp[hl],fun i t v ha hb=>kN i t v ha (by simpa using hb)⟩,fun K Q dv hk=>⟨fun _ _=>trivial,?_⟩⟩
  rw[Oper.semAt_eq _ _ _ jy]
  have aJ:(execOp a.eval o).run P w=.ok (.enter f (args.toList.map a.eval++vs.toList).toArray) w:=by
   have:=dX (P:=P) (w:=w) (args:=(args.toList.map a.eval++vs.toList).toArray) dv
   have e2:(args.toList.map a.eval++vs.toList).toArray=args.map a.eval++vs:=by rw[←Array.toList_map];simp
   rw[e2]at this ⊢
   have e:a.eval (.tmp t)=.func (.func f) #[] vs:=o9
   simp only[execOp,ho,resolve,e,Deferred.ofValue,invoke]
   simpa using this
  rw[aJ]
  exact upon_enter hk
end
def e8:T→Option Nat
 | .ptr b _ | .map b=>some b
 | _=>none
def dY (R:ai)(y:It):Option Nat:=match y.o.d,y.o.op with
 | some d,.b (.alloc _)=>e8 (R d)
 | some d,.b .nz=>e8 (R d)
 | _,_=>none
def jf (g:Ctx)(N:Nat)(R:ai)(H:aa)(y:It):Prop :=
 (au R y.o.g=false∧∀d,y.o.d=some d→R d=av) ∨
 (au R y.o.g=true∧∃d b,y.o.d=some d∧y.o.op=.b b∧(
  ((gu b=.pure∨gu b=.read)∧ae R H b=some (R d,H)) ∨
  (∃k z,b=.alloc z∧R d=.ptr k 0∧H[k]?=some (.cells z)∧g.φ k=none∧N≤k) ∨
  (∃k,b=.nz∧R d=.map k∧H[k]?=some (.map [])∧g.φ k=none∧N≤k)))
theorem jf.mono {g g':Ctx}{N:Nat}{R R':ai}{H H':aa}{y:It}(h:jf g N R H y)(hg:∀t∈e6 y.o.g,R' t=R t)(hr:∀t∈lD y.o.op,R' t=R t)(hd:∀d,y.o.d=some d→R' d=R d)
  (zL:∀d b,au R y.o.g=true→y.o.d=some d→y.o.op=.b b→gu b=.read→ae R H b=some (R d,H)→ae R H' b=some (R d,H'))
  (kO:∀k x,dY R y=some k→H[k]?=some x→(∀e,x≠.tok e)→g.φ k=none→N≤k→H'[k]?=some x∧g'.φ k=none):jf g' N R' H' y:=by
 have hw:au R' y.o.g=au R y.o.g:=eD hg
 rcases h with⟨h1,h2⟩|⟨h1,d,b,h2,h3,h4⟩
 ·exact .inl ⟨hw▸h1,fun d e=>by rw[hd d e];exact h2 d e⟩
 ·refine .inr ⟨hw▸h1,d,b,h2,h3,?_⟩
  rw[hd d h2]
  rw[h3]at hr
  rcases h4 with⟨hk,he⟩|⟨k,z,rfl,e1,e2,e3,e4⟩|⟨k,rfl,e1,e2,e3,e4⟩
  ·refine .inl ⟨hk,?_⟩
   rw[iu (R:=R') (R':=R) hr]
   rcases hk with hk|hk
   ·exact(eO hk he).2 H'
   ·exact zL d b h1 h2 h3 hk he
  ·have hm:=kO k _ (by simp[dY,h2,h3,e1,e8]) e2 (by simp) e3 e4
   exact .inr (.inl ⟨k,z,rfl,e1,hm.1,hm.2,e4⟩)
  ·have hm:=kO k _ (by simp[dY,h2,h3,e1,e8]) e2 (by simp) e3 e4
   exact .inr (.inr ⟨k,rfl,e1,hm.1,hm.2,e4⟩)
theorem iv (a:Act)(d:Option Nat)(v:Value)(t:Nat)(hd:∀e,d=some e→e<a.tmps.size):(a.put d v).tmps.getD t undef=if d=some t then v else a.tmps.getD t undef:=by
 cases d with
 | none=>simp[Act.put]
 | some d =>
  have aC:=hd d rfl
  simp only[Act.put]
  by_cases e:d=t
  ·subst e;simp[Array.getD_eq_getD_getElem?,aC]
  ·rw[if_neg (by simpa using e),Array.getD_eq_getD_getElem?,Array.getD_eq_getD_getElem?,Array.getElem?_setIfInBounds_ne e]
theorem iw (a:Act)(d:Option Nat)(v:Value):(a.put d v).tmps.size=a.tmps.size:=by cases d<;>simp[Act.put]
theorem da (a:Act)(d:Option Nat)(v:Value):(a.put d v).defers=a.defers:=by cases d<;>simp[Act.put]
theorem aO {R:ai}{d:Option Nat}{v:T}{t:Nat}(h:d≠some t):ay R d v t=R t:=by
 cases d with
 | none=>rfl
 | some d=>simp only[ay,iZ];rw[if_neg];rintro rfl;exact h rfl
theorem dq {R:ai}{v:T}{t:Nat}:ay R (some t) v t=v:=by simp[ay,iZ]
theorem SR.C3 {w0 w:World}{g:Ctx}{H:aa}(h:SR w0 g H w){x:B}(hx:(∃cs,x=.cells cs)∨∃es,x=.map es):SR w0 g (H++[x]) w:=by
 refine⟨h.size,h.eo,h.oN,h.fresh,fun b y hy=>by have:=h.gN b y hy;simp;omega,fun t e y hy=>by have:=h.cp t e y hy;simp;omega,fun b y hy=>?_,h.env⟩
 by_cases hb:b=H.length
 ·subst hb
  rw[bm]at hy
  have hn:=h.tj (b:=H.length) (Nat.le_refl _)
  cases hy
  rcases hx with⟨cs,rfl⟩|⟨es,rfl⟩<;>intro r o q hq<;>rw[hn]at hq<;>cases hq
 ·exact h.dt b y (aM hb hy)
theorem SR.drew {w0 w w':World}{g:Ctx}{H:aa}(h:SR w0 g H w)(tr:Tr w w' ct cV)(hz:w'.heap.size=w.heap.size):SR w0 g H w'∧Le g w g w':=by
 have le:Le g w g w':=Le.cI tr (fun _ _ h=>h) (fun _ _ h=>h) (fun _ _ _ h=>h) (fun _ _ hs=>hs.elim)
 refine⟨?_,le⟩
 exact h.step (fun _=>False) tr le (fun _ _ hs=>hs.elim) (fun _ hm=>hm.elim) (fun r o hr=>h.fresh r o (by omega)) h.gN h.cp (fun _ _ _=>rfl) (fun _ _ _ _=>⟨id,id⟩) (fun _ _ _ _=>rfl) (fun b x hx=>.inl ⟨id,hx⟩)
section
variable {P:Program} {w0 w:World} {g:Ctx} {H:aa} {a:Act}
theorem lL {r:Option Nat}{mu:Bool}{o:Oper}{z:List T}{k:Nat}(hm:mY o.op=true)(hc:ba P mu o.op=some (.b (.alloc z)))(h:SR w0 g H w)(hk:H[k]?=some (.cells z))(hn:g.φ k=none) :
  ∃v w' g',(∀(K:Act→World→Prop) (Q:Exit→Act→World→Prop),K (a.put o.dst v) w'→o.wpIn (Fw r) 0 P a w K Q)∧Le g w g' w'∧SR w0 g' H w'∧VR g' w' (.ptr k 0) v∧∀b,g.φ b=none→b≠k→g'.φ b=none:=by
 obtain⟨dst,op,ty,pos,after,guard⟩:=o
 simp only at hm hc
 have hc:=dF hc
 unfold mY at hm
 split at hm
 ·rename_i t _
  simp only[aA,Option.map_eq_some_iff]at hc
  obtain⟨z',h1,h2⟩:=hc
  cases h2
  obtain⟨i,zv,h2,h3,h4⟩:=cd h1
  obtain⟨hv,ho⟩:=bu (g:=g) (w:=w) _ _ h4
  have tr:Tr w w ct cV:=Tr.refl w
  obtain⟨le,sr,fr⟩:=h.mut (c:=zv.cells) (ty:=t) (H':=H) (b:=k) tr rfl hk hn (fun b' x _ hx=>.inl hx) (Nat.le_refl _) (fun b' x hx _ _ _=>hx) (by simpa using hv.xB ho)
  refine⟨.pointer (some ⟨w.heap.size,0,none⟩),_,_,fun K Q hk=>⟨fun _ _=>trivial,?_⟩,le,sr,.ptr (r:=w.heap.size) (o:=0) (q:=zv.cells.size) (by simp[Ctx.at]),fun b hb aF=>by simp only[Ctx.at,Ctx.row];rw[if_neg aF];exact hb⟩
  rw[Oper.semAt_eq _ _ _ (by rintro c⟨⟩)]
  have aJ:(execOp a.eval ⟨dst,.alloc t,ty,pos,after,guard⟩).run P w=.ok (.value (.pointer (some ⟨w.heap.size,0,none⟩))) (w.alloc (.cells zv.cells t)):=by
   simp[execOp,Instr.alloc,zeroValue,ar h2,h3,newVar,newRow]
  rw[aJ]
  exact hk
 ·simp[aA]at hc
 ·cases hm
theorem pd {r:Option Nat}{mu:Bool}{o:Oper}{k:Nat}(hm:mY o.op=true)(hc:ba P mu o.op=some (.b .nz))(h:SR w0 g H w)(hk:H[k]?=some (.map []))(hn:g.φ k=none) :
  ∃v w' g',(∀(K:Act→World→Prop) (Q:Exit→Act→World→Prop),K (a.put o.dst v) w'→o.wpIn (Fw r) 0 P a w K Q)∧Le g w g' w'∧SR w0 g' H w'∧VR g' w' (.map k) v∧∀b,g.φ b=none→b≠k→g'.φ b=none:=by
 obtain⟨dst,op,ty,pos,after,guard⟩:=o
 simp only at hm hc
 have hc:=dF hc
 unfold mY at hm
 split at hm
 ·simp[aA]at hc
 ·rename_i t _
  obtain⟨le,sr⟩:=h.qd (H':=H) (b:=k) hk hn (fun b' x _ hx=>hx) (Nat.le_refl _)
  refine⟨.map (some w.heap.size),_,_,fun K Q hk=>⟨fun _ _=>trivial,?_⟩,le,sr,.map (r:=w.heap.size) (o:=0) (q:=0) (by simp[Ctx.at]),fun b hb aF=>by simp only[Ctx.at,Ctx.row];rw[if_neg aF];exact hb⟩
  rw[Oper.semAt_eq _ _ _ (by rintro c⟨⟩)]
  have aJ:(execOp a.eval ⟨dst,.makeMap t none,ty,pos,after,guard⟩).run P w=.ok (.value (.map (some w.heap.size))) (w.alloc (.map #[] 0)):=by
   simp[execOp,Instr.makeMap]
  rw[aJ]
  exact hk
 ·cases hm
end
theorem Fr.ext (g:Ctx)(H l:aa):Fr g H g (H++l):=⟨by simp,fun b x hx _ hn=>⟨cN hx,hn⟩⟩
structure Dr (P:Program)(n:Nat)(ops:Array Oper)(mu:Nat→Bool)(w0:World)(df:List Deferred)(mk:T)(g0:Ctx)(ws:World)(H0:aa)
  (pre:List It) (L:Array Bool) (g:Ctx) (R:ai) (H:aa) (a:Act) (w:World):Prop where
 m7:L.size=ops.size
 cmp:∀y∈pre,∃o,ops[y.i]?=some o∧(∃st,bW P n ops (mu y.i) o st=some y.o)∧y.ts=tmpsOf o y.o.op y.o.g
 rd:∀y∈pre,∀z∈pre,z.early=true→∀d,z.o.d=some d→d∈y.ts→((bM ops.toList []).getD y.i 0).testBit z.i=true
 dd:∀y∈pre,∀z∈pre,∀d,y.o.d=some d→z.o.d=some d→y.i=z.i
 kl:∀y∈pre,y.early=true→∀o,ops[y.i]?=some o→tq y.o=.make→mY o.op=true
 uniq:∀y∈pre,∀z∈pre,y.i=z.i→y=z
 jg:∀y∈pre,∀o,ops[y.i]?=some o→∀j∈aU o,j<y.i
 closed:∀i o,ops[i]?=some o→L.getD i false=true→∀j∈aU o,j<i∧L.getD j false=true
 sub:∀i,L.getD i false=true→∃y∈pre,y.i=i
 iy:∀y∈pre,y.early=false→L.getD y.i false=true
 sr:SR w0 g H w
 le:Le g0 ws g w
 fr:Fr g0 H0 g H
 kx:a.tmps.size=n
 ky:∀t,t<n→(∀y∈pre,L.getD y.i false=false→y.o.d≠some t)→VR g w (R t) (a.tmps.getD t undef)
 bz:∀y∈pre,L.getD y.i false=false→jf g H0.length R H y
 inj:∀y∈pre,∀z∈pre,L.getD y.i false=false→L.getD z.i false=false→y.i≠z.i→∀k,dY R y=some k→dY R z≠some k
 wg:a.defers=df
 wh:R n=mk
section
variable {P:Program} {n:Nat} {ops:Array Oper} {mu:Nat→Bool} {w0 w ws:World} {df:List Deferred} {mk:T} {g g0:Ctx} {H H0 H':aa} {pre:List It} {L:Array Bool} {R:ai} {a:Act} {r:Option Nat}
theorem eQ {i:Nat}(h:i∈Region.ready .any ops L):L.getD i false=false∧∃o,ops[i]?=some o∧∀j∈aU o,L.getD j false=true:=by
 obtain⟨h1,o,h2,h3⟩:=mem_ready.1 h
 refine⟨?_,o,h2,fun j hj=>?_⟩
 ·cases hi:L[i]? with
  | none=>simp[Array.getD_eq_getD_getElem?,hi]at h1
  | some b=>simp[Array.getD_eq_getD_getElem?,hi]at h1 ⊢;exact h1
 ·simp only[aU,List.mem_map,List.mem_filter]at hj
  obtain⟨e,⟨he,hb⟩,rfl⟩:=hj
  exact h3 e (by simpa using he) hb
theorem Dr.bit (h:Dr P n ops mu w0 df mk g0 ws H0 pre L g R H a w){i:Nat}{o:Oper}{t:Nat}(ho:ops[i]?=some o)(hp:∀j∈aU o,j<i∧L.getD j false=true)
  (hb:((bM ops.toList []).getD i 0).testBit t=true):L.getD t false=true :=
 lJ (D:=fun i=>L.getD i false=true) h.closed i o t ho hp hb
theorem br {i j:Nat}(hi:i<L.size):(L.setIfInBounds i true).getD j false=if i=j then true else L.getD j false:=by
 by_cases e:i=j
 ·subst e;simp[Array.getD_eq_getD_getElem?,hi]
 ·rw[if_neg e,Array.getD_eq_getD_getElem?,Array.getD_eq_getD_getElem?,Array.getElem?_setIfInBounds_ne e]
theorem cO {o:Oper}{y:It}(h:y.ts=tmpsOf o y.o.op y.o.g):(∀t∈e6 y.o.g,t∈y.ts)∧(∀t∈lD y.o.op,t∈y.ts)∧∀t∈bP o.op.operands.toList,t∈y.ts:=by
 rw[h];unfold tmpsOf
 exact⟨fun t ht=>by simp[ht],fun t ht=>by simp[ht],fun t ht=>by simp[ht]⟩
theorem Dr.look (h:Dr P n ops mu w0 df mk g0 ws H0 pre L g R H a w){i:Nat}{o:Oper}{ts:List Nat}(ho:ops[i]?=some o)(hp:∀j∈aU o,j<i∧L.getD j false=true)(hn:∀t∈ts,t<n)
  (hz:∀z∈pre,z.early=true→∀d,z.o.d=some d→d∈ts→((bM ops.toList []).getD i 0).testBit z.i=true):cw g w R a ts:=by
 intro t ht
 refine h.ky t (hn t ht) fun z iU hu hd=>?_
 cases he:z.early with
 | false=>rw[h.iy z iU he]at hu;cases hu
 | true=>rw[h.bit ho hp (hz z iU he t hd ht)]at hu;cases hu
theorem Dr.late (h:Dr P n ops mu w0 df mk g0 ws H0 pre L g R H a w){y:It}(hy:y∈pre)(hr:y.i∈Region.ready .any ops L) :
  ∃v w' g',(∀(K:Act→World→Prop) (Q:Exit→Act→World→Prop),K (a.put y.o.d v) w'→wpOpIn (Fw r) 0 P ops Q y.i K a w) ∧
   Dr P n ops mu w0 df mk g0 ws H0 pre (L.setIfInBounds y.i true) g' R H (a.put y.o.d v) w':=by
 obtain⟨xV,o,ho,C4⟩:=eQ hr
 obtain⟨o',fm,⟨st,bL⟩,pK⟩:=h.cmp y hy
 rw[ho]at fm;cases fm
 obtain⟨op,gd,yX,Fk,xW,C5,yY⟩:=aq bL
 have hd:y.o.d=o.dst:=by rw[xW]
 have zM:y.o.op=op:=by rw[xW]
 have C6:y.o.g=gd:=by rw[xW]
 obtain⟨Gm,IA,Gn⟩:=cO pK
 have hp:∀j∈aU o,j<y.i∧L.getD j false=true:=fun j hj=>⟨h.jg y hy o ho j hj,C4 j hj⟩
 have kZ:cw g w R a y.ts:=h.look ho hp (fun t ht=>C5 t (by rw[pK,zM,C6]at ht;exact ht)) (h.rd y hy)
 have Cg:Region.wanted o (yielded ops a.tmps)=au R y.o.g:=by
  rw[C6];exact gv Fk h.kx (fun t ht=>C5 t (by simp[tmpsOf,ht])) (kZ.sub (by rw[←C6];exact Gm))
 have gj:y.i<L.size:=by rw[h.m7];exact(Array.getElem?_eq_some_iff.1 ho).1
 have C7:∀e,y.o.d=some e→e<a.tmps.size:=fun e he=>by rw[h.kx];exact yY e (hd▸he)
 have ff:∀v w' g',Le g w g' w'→SR w0 g' H w'→(∀d,y.o.d=some d→VR g' w' (R d) v)→Fr g0 H0 g' H→(∀z∈pre,L.getD z.i false=false→z.i≠y.i→jf g' H0.length R H z) →
   Dr P n ops mu w0 df mk g0 ws H0 pre (L.setIfInBounds y.i true) g' R H (a.put y.o.d v) w':=by
  intro v w' g' le sr hv fr zN
  refine { m7:=(by simp[h.m7]),cmp:=h.cmp,rd:=h.rd,dd:=h.dd,kl:=h.kl,uniq:=h.uniq,jg:=h.jg,closed:=?_,sub:=?_,iy:=?_,sr:=sr,le:=h.le.trans le,fr:=fr,kx:=(by rw[iw];exact h.kx),ky:=?_,bz:=?_,inj:=?_,wg:=(by rw[da];exact h.wg),wh:=h.wh }
  ·intro i oi xX m8 j hj
   rw[br gj]at m8 ⊢
   by_cases e:y.i=i
   ·subst e;rw[ho]at xX;cases xX
    obtain⟨h1,h2⟩:=hp j hj
    exact⟨h1,by split<;>simp[h2]⟩
   ·rw[if_neg e]at m8
    obtain⟨h1,h2⟩:=h.closed i oi xX m8 j hj
    exact⟨h1,by split<;>simp[h2]⟩
  ·intro i m8
   rw[br gj]at m8
   by_cases e:y.i=i
   ·exact⟨y,hy,e⟩
   ·rw[if_neg e]at m8;exact h.sub i m8
  ·intro z hz he
   rw[br gj]
   split
   ·rfl
   ·exact h.iy z hz he
  ·intro t ht yZ
   rw[iv _ _ _ _ C7]
   split
   ·rename_i e;exact hv t e
   ·rename_i e
    refine(h.ky t ht fun z hz hu g7=>?_).mono le
    by_cases ez:y.i=z.i
    ·rw[h.uniq y hy z hz ez]at e;exact e g7
    ·exact yZ z hz (by rw[br gj,if_neg ez];exact hu) g7
  ·intro z hz hu
   rw[br gj]at hu
   by_cases ez:y.i=z.i
   ·rw[if_pos ez]at hu;cases hu
   ·rw[if_neg ez]at hu;exact zN z hz hu (Ne.symm ez)
  ·intro z hz z' iU hu qD
   rw[br gj]at hu qD
   by_cases ez:y.i=z.i
   ·rw[if_pos ez]at hu;cases hu
   ·by_cases Fl:y.i=z'.i
    ·rw[if_pos Fl]at qD;cases qD
    ·rw[if_neg ez]at hu;rw[if_neg Fl]at qD;exact h.inj z hz z' iU hu qD
 have qE:∀g',Fr g H g' H→∀z∈pre,L.getD z.i false=false→z.i≠y.i→jf g' H0.length R H z:=fun g' fr z hz hu _ =>
  (h.bz z hz hu).mono (fun _ _=>rfl) (fun _ _=>rfl) (fun _ _=>rfl) (fun _ _ _ _ _ _ e=>e) (fun k x _ hx uX hn _=>fr.2 k x hx uX hn)
 rcases h.bz y hy xV with⟨hw,hu⟩|⟨hw,d,b,xY,jr,dG⟩
 ·refine⟨undef,w,g,fun K Q hk=>?_,ff undef w g (.refl _ _) h.sr (fun d e=>by rw[hu d e];exact cZ) h.fr (qE g (.refl _ _))⟩
  unfold wpOpIn
  simp only[ho,Cg,hw]
  rw[hd]at hk
  exact⟨fun _ _=>trivial,hk⟩
 ·have xZ:ba P (mu y.i) o.op=some (.b b):=by rw[←jr,zM];exact yX
  rcases dG with⟨hk,he⟩|⟨k,z,rfl,e1,e2,e3,e4⟩|⟨k,rfl,e1,e2,e3,e4⟩
  ·obtain⟨v,w',g',hs,le,sr,hv,fr⟩:=qB (r:=r) xZ h.sr (kZ.sub Gn) he
   refine⟨v,w',g',fun K Q ju=>?_,ff v w' g' le sr (fun d' e=>by rw[xY]at e;cases e;exact hv) (h.fr.trans fr) (qE g' fr)⟩
   unfold wpOpIn
   simp only[ho,Cg,hw,if_true]
   exact hs K Q (by rw[←hd];exact ju)
  ·-- a variable Fm dK place
   have x0:y.early=true:=by cases he:y.early with|true=>rfl|false=>rw[h.iy y hy he]at xV;cases xV
   have kO:=h.kl y hy x0 o ho (by simp[tq,jr,xY,gu])
   obtain⟨v,w',g',hs,le,sr,hv,hφ⟩:=lL (r:=r) (a:=a) kO xZ h.sr e2 e3
   have C8:dY R y=some k:=by simp[dY,xY,jr,e1,e8]
   refine⟨v,w',g',fun K Q ju=>?_,ff v w' g' le sr (fun d' e=>by rw[xY]at e;cases e;rw[e1];exact hv) ⟨h.fr.1,fun b x hx uX hb=>?_⟩ fun z' iU qD aF=>?_⟩
   ·unfold wpOpIn
    simp only[ho,Cg,hw,if_true]
    exact hs K Q (by rw[←hd];exact ju)
   ·obtain⟨f1,f2⟩:=h.fr.2 b x hx uX hb
    exact⟨f1,hφ b f2 (by have:=(List.getElem?_eq_some_iff.1 hx).1;omega)⟩
   ·exact(h.bz z' iU qD).mono (fun _ _=>rfl) (fun _ _=>rfl) (fun _ _=>rfl) (fun _ _ _ _ _ _ e=>e) fun k' x xy hx _ hn _ =>
     ⟨hx,hφ k' hn (by rintro rfl;exact h.inj y hy z' iU xV qD (Ne.symm aF) k' C8 xy)⟩
  ·have x0:y.early=true:=by cases he:y.early with|true=>rfl|false=>rw[h.iy y hy he]at xV;cases xV
   have kO:=h.kl y hy x0 o ho (by simp[tq,jr,xY,gu])
   obtain⟨v,w',g',hs,le,sr,hv,hφ⟩:=pd (r:=r) (a:=a) kO xZ h.sr e2 e3
   have C8:dY R y=some k:=by simp[dY,xY,jr,e1,e8]
   refine⟨v,w',g',fun K Q ju=>?_,ff v w' g' le sr (fun d' e=>by rw[xY]at e;cases e;rw[e1];exact hv) ⟨h.fr.1,fun b x hx uX hb=>?_⟩ fun z' iU qD aF=>?_⟩
   ·unfold wpOpIn
    simp only[ho,Cg,hw,if_true]
    exact hs K Q (by rw[←hd];exact ju)
   ·obtain⟨f1,f2⟩:=h.fr.2 b x hx uX hb
    exact⟨f1,hφ b f2 (by have:=(List.getElem?_eq_some_iff.1 hx).1;omega)⟩
   ·exact(h.bz z' iU qD).mono (fun _ _=>rfl) (fun _ _=>rfl) (fun _ _=>rfl) (fun _ _ _ _ _ _ e=>e) fun k' x xy hx _ hn _ =>
     ⟨hx,hφ k' hn (by rintro rfl;exact h.inj y hy z' iU xV qD (Ne.symm aF) k' C8 xy)⟩
end
structure Hd (P:Program)(n:Nat)(ops:Array Oper)(mu:Nat→Bool)(pre:List It)(x:It)(o:Oper):Prop where
 ho:ops[x.i]?=some o
 co:bW P n ops (mu x.i) o x.o.gM=some x.o
 ts:x.ts=tmpsOf o x.o.op x.o.g
 st:x.early=false→x.o.gM=du ((bM ops.toList []).getD x.i 0) pre
 pred:∀j∈aU o,j<x.i∧∃z∈pre,z.i=j
 Gp:∀z∈pre,z.early=true∨((bM ops.toList []).getD x.i 0).testBit z.i=true
 ne:∀z∈pre,z.i≠x.i
 dst:∀d,x.o.d=some d→(∀z∈pre,z.o.d≠some d∧(d∈z.ts→x.early=false∧((bM ops.toList []).getD x.i 0).testBit z.i=true))∧d∉x.ts
 C9:∀z∈pre,∀d,z.o.d=some d→d∈x.ts→((bM ops.toList []).getD x.i 0).testBit z.i=true
 kl:x.early=true→tq x.o≠.we∧(tq x.o=.make→mY o.op=true)
theorem pf {P:Program}{n:Nat}{ops:Array Oper}{mu:Nat→Bool}{pre:List It}{y:Nat×Bool}{x:It}(h:mZ P n ops mu ((bM ops.toList []).getD y.1 0) pre y=some x):∃o,Hd P n ops mu pre x o:=by
 unfold mZ at h
 generalize nE:(bM ops.toList []).getD y.1 0=bs at h
 cases ho:ops[y.1]? with
 | none=>simp[ho]at h
 | some o =>
  rw[ho]at h;dsimp only at h
  cases hc:bW P n ops (mu y.1) o (if y.2=true then []else du bs pre)with
  | none=>rw[hc]at h;cases h
  | some o' =>
   rw[hc]at h;dsimp only at h
   split at h
   ·rename_i hk
    cases h
    subst nE
    have g5:o'.gM=if y.2=true then []else du ((bM ops.toList []).getD y.1 0) pre:=by
     obtain⟨op,gd,_,_,e,_⟩:=aq hc;rw[e]
    simp only[qz,Bool.and_eq_true,List.all_eq_true,decide_eq_true_eq,List.any_eq_true,beq_iff_eq,Bool.or_eq_true,bne_iff_ne,ne_eq,Bool.not_eq_true']at hk
    obtain⟨⟨⟨⟨⟨k1,k2⟩,k3⟩,k4⟩,k5⟩,k6⟩:=hk
    refine⟨o,ho,by rw[g5];exact hc,rfl,fun he=>by simp only at he;rw[g5,he];rfl,k1,k2,k3,fun d hd=>?_,fun z hz d hd ht=>?_,fun he=>?_⟩
    ·simp only at hd
     rw[hd]at k4
     simp only[List.all_eq_true,Bool.and_eq_true,bne_iff_ne,ne_eq,Bool.or_eq_true,Bool.not_eq_true',List.contains_eq_mem,decide_eq_false_iff_not,decide_eq_true_eq]at k4
     exact⟨fun z hz=>⟨(k4.1 z hz).1,fun ht=>((k4.1 z hz).2.resolve_left (fun hn=>hn ht))⟩,k4.2⟩
    ·have:=k5 z hz
     rw[hd]at this
     simp only[Bool.or_eq_true,Bool.not_eq_true',List.contains_eq_mem,decide_eq_false_iff_not]at this
     exact this.resolve_left (fun hn=>hn ht)
    ·rcases k6 with k6|k6
     ·have v5:y.2=true:=he
      rw[v5]at k6;cases k6
     ·exact⟨k6.1,fun hm=>k6.2.resolve_left (fun hn=>hn hm)⟩
   ·cases h
theorem dZ {P:Program}{n:Nat}{ops:Array Oper}{mu:Nat→Bool}{pre:List It}{y:Nat×Bool}{ord:List (Nat×Bool)}{dK:List It}(h:bA P n ops mu (bM ops.toList []) pre (y :: ord)=some dK) :
  ∃x l o,dK=x :: l∧Hd P n ops mu pre x o∧bA P n ops mu (bM ops.toList []) (pre++[x]) ord=some l:=by
 simp only[bA]at h
 split at h
 ·rename_i x hx
  simp only[Option.map_eq_some_iff]at h
  obtain⟨l,h1,rfl⟩:=h
  obtain⟨o,ho⟩:=pf hx
  exact⟨x,l,o,rfl,ho,h1⟩
 ·cases h
theorem aW {P:Program}{n:Nat}{ops:Array Oper}{mu:Nat→Bool}:∀(ord:List (Nat×Bool)) (pre dK:List It),bA P n ops mu (bM ops.toList []) pre ord=some dK→∀i,i<ops.size→∃y∈pre++dK,y.i=i
 | [],pre,dK,h,i,hi=>by
  simp only[bA]at h
  split at h
  ·rename_i hk
   cases h
   simp only[List.all_eq_true,List.mem_range,List.any_eq_true,beq_iff_eq]at hk
   simpa using hk i hi
  ·cases h
 | y :: ord,pre,dK,h,i,hi=>by
  obtain⟨x,l,o,rfl,_,h2⟩:=dZ h
  simpa using aW ord (pre++[x]) l h2 i hi
theorem bc {P:Program}{n:Nat}{ops:Array Oper}{mu:Nat→Bool}:∀(ord:List (Nat×Bool)) (pre dK:List It),bA P n ops mu (bM ops.toList []) pre ord=some dK→∀y∈dK,(∃o,ops[y.i]?=some o∧(∀j∈aU o,j<y.i))∧∀z∈pre,z.early=true∨((bM ops.toList []).getD y.i 0).testBit z.i=true
 | [],pre,dK,h,y,hy=>by
  simp only[bA]at h
  split at h
  ·cases h;cases hy
  ·cases h
 | u :: ord,pre,dK,h,y,hy=>by
  obtain⟨x,l,o,rfl,h1,h2⟩:=dZ h
  rcases List.mem_cons.1 hy with rfl|hy
  ·exact⟨⟨o,h1.ho,fun j hj=>(h1.pred j hj).1⟩,h1.Gp⟩
  ·obtain⟨h3,h4⟩:=bc ord (pre++[x]) l h2 y hy
   exact⟨h3,fun z hz=>h4 z (by simp[hz])⟩
theorem iz {b:Nat}{y:It}{d:Nat}{op:Bo}:∀(pre:List It),y∈pre→y.early=true→y.o.d=some d→y.o.op=.b op→gu op=.read→b.testBit y.i=false→⟨d,op,y.o.g⟩∈du b pre
 | [],h,_,_,_,_,_=>by cases h
 | z :: pre,h,h1,h2,h3,h4,h5=>by
  rcases List.mem_cons.1 h with rfl|h
  ·simp[du,h1,h2,h3,h4,h5]
  ·have ih:=iz pre h h1 h2 h3 h4 h5
   simp only[du]
   split
   ·split
    ·exact List.mem_cons_of_mem _ ih
    ·exact ih
   ·exact ih
theorem db {R R':ai}{y:It}(h:∀d,y.o.d=some d→R' d=R d):dY R' y=dY R y:=by
 unfold dY
 split
 ·rename_i d z h1 h2;simp only[h1,h2,h d h1]
 ·rename_i d h1 h2;simp only[h1,h2,h d h1]
 ·rfl
theorem jf.lt {g:Ctx}{N:Nat}{R:ai}{H:aa}{y:It}(h:jf g N R H y){k:Nat}(hm:dY R y=some k):k<H.length:=by
 unfold dY at hm
 rcases h with⟨_,h2⟩|⟨_,d,b,h2,h3,h4⟩
 ·split at hm
  ·rename_i d z h1 _;rw[h2 d h1]at hm;cases hm
  ·rename_i d h1 _;rw[h2 d h1]at hm;cases hm
  ·cases hm
 ·rw[h2,h3]at hm
  rcases h4 with⟨hk,he⟩|⟨k',z,rfl,e1,e2,e3,e4⟩|⟨k',rfl,e1,e2,e3,e4⟩
  ·cases b<;>simp[gu]at hk hm
  ·simp only[e1,e8,Option.some.injEq]at hm;subst hm;exact(List.getElem?_eq_some_iff.1 e2).1
  ·simp only[e1,e8,Option.some.injEq]at hm;subst hm;exact(List.getElem?_eq_some_iff.1 e2).1
section
variable {P:Program} {n:Nat} {ops:Array Oper} {mu:Nat→Bool} {w0 w w' ws:World} {df:List Deferred} {mk:T} {g g' g0:Ctx} {H H0 H':aa} {pre:List It} {L:Array Bool} {R:ai} {a:Act} {r:Option Nat} {x:It} {o:Oper}
theorem Dr.ft (h:Dr P n ops mu w0 df mk g0 ws H0 pre L g R H a w)(hd:Hd P n ops mu pre x o):L.getD x.i false=false:=by
 cases e:L.getD x.i false with
 | false=>rfl
 | true=>obtain⟨y,hy,e⟩:=h.sub x.i e;exact absurd e (hd.ne y hy)
theorem ak {α:Type}{y x:α}{l:List α}(h:y∈l++[x]):y∈l∨y=x:=by simpa using h
theorem Dr.take (h:Dr P n ops mu w0 df mk g0 ws H0 pre L g R H a w)(hd:Hd P n ops mu pre x o)(he:x.early=true){t:T}(hp:jf g H0.length (ay R x.o.d t) H' x)
  (hH:H'=H∨∃B,H'=H++[B]∧((∃cs,B=.cells cs)∨∃es,B=.map es)) (hm:∀k,dY (ay R x.o.d t) x=some k→H.length≤k):Dr P n ops mu w0 df mk g0 ws H0 (pre++[x]) L g (ay R x.o.d t) H' a w:=by
 have Gq:=h.ft hd
 have jy:∀t:T,x.o.d≠some n:=fun _ e=>by
  obtain⟨op,gd,_,_,xW,_,yY⟩:=aq hd.co
  have Ch:x.o.d=o.dst:=by rw[xW]
  exact Nat.lt_irrefl n (yY n (Ch▸e))
 have pK:∀z∈pre,∀u∈z.ts,ay R x.o.d t u=R u:=fun z hz u hu=>aO fun e=>by
  obtain⟨h1,_⟩:=((hd.dst u e).1 z hz).2 hu
  rw[he]at h1;cases h1
 have pL:∀z∈pre,∀d,z.o.d=some d→ay R x.o.d t d=R d:=fun z hz d g7=>aO fun e=>((hd.dst d e).1 z hz).1 g7
 have Da:∃l,H'=H++l:=by
  rcases hH with rfl|⟨B,rfl,_⟩
  ·exact⟨[],by simp⟩
  ·exact⟨[B],rfl⟩
 obtain⟨l,hl⟩:=Da
 have Ci:∀z∈pre,L.getD z.i false=false→jf g H0.length (ay R x.o.d t) H' z:=fun z hz hu=>by
  obtain⟨oz,_,_,Db⟩:=h.cmp z hz
  obtain⟨t1,t2,_⟩:=cO Db
  refine(h.bz z hz hu).mono (fun u hu=>pK z hz u (t1 u hu)) (fun u hu=>pK z hz u (t2 u hu)) (pL z hz) (fun d b _ _ _ hk e=>?_) (fun k y _ hy _ hn _=>?_)
  ·subst hl;exact(eP hk e).2 l
  ·subst hl;exact⟨cN hy,hn⟩
 refine { m7:=h.m7,cmp:=?_,rd:=?_,dd:=?_,kl:=?_,uniq:=?_,jg:=?_,closed:=h.closed,sub:=fun i hi=>?_,iy:=?_,sr:=?_,le:=h.le,fr:=?_,kx:=h.kx,ky:=?_,bz:=?_,inj:=?_,wg:=h.wg,wh:=(by rw[aO (jy t)];exact h.wh) }
 ·intro y hy
  replace hy:=ak hy;rcases hy with hy|rfl
  ·exact h.cmp y hy
  ·exact⟨o,hd.ho,⟨_,hd.co⟩,hd.ts⟩
 ·intro y hy z hz zO d g7 x7
  replace hy:=ak hy;rcases hy with hy|rfl
  ·replace hz:=ak hz;rcases hz with hz|rfl
   ·exact h.rd y hy z hz zO d g7 x7
   ·obtain⟨h1,_⟩:=((hd.dst d g7).1 y hy).2 x7
    rw[he]at h1;cases h1
  ·replace hz:=ak hz;rcases hz with hz|rfl
   ·exact hd.C9 z hz d g7 x7
   ·exact absurd x7 (hd.dst d g7).2
 ·intro y hy z hz d uY g7
  replace hy:=ak hy;rcases hy with hy|rfl
  ·replace hz:=ak hz;rcases hz with hz|rfl
   ·exact h.dd y hy z hz d uY g7
   ·exact absurd uY ((hd.dst d g7).1 y hy).1
  ·replace hz:=ak hz;rcases hz with hz|rfl
   ·exact absurd g7 ((hd.dst d uY).1 z hz).1
   ·rfl
 ·intro y hy nQ o' fm
  replace hy:=ak hy;rcases hy with hy|rfl
  ·exact h.kl y hy nQ o' fm
  ·rw[hd.ho]at fm;cases fm;exact(hd.kl nQ).2
 ·intro y hy z hz e
  replace hy:=ak hy;rcases hy with hy|rfl
  ·replace hz:=ak hz;rcases hz with hz|rfl
   ·exact h.uniq y hy z hz e
   ·exact absurd e (hd.ne y hy)
  ·replace hz:=ak hz;rcases hz with hz|rfl
   ·exact absurd e.symm (hd.ne z hz)
   ·rfl
 ·intro y hy o' fm j hj
  replace hy:=ak hy;rcases hy with hy|rfl
  ·exact h.jg y hy o' fm j hj
  ·rw[hd.ho]at fm;cases fm;exact(hd.pred j hj).1
 ·obtain⟨y,hy,e⟩:=h.sub i hi
  exact⟨y,by simp[hy],e⟩
 ·intro y hy nQ
  replace hy:=ak hy;rcases hy with hy|rfl
  ·exact h.iy y hy nQ
  ·rw[he]at nQ;cases nQ
 ·rcases hH with rfl|⟨B,rfl,hB⟩
  ·exact h.sr
  ·exact h.sr.C3 hB
 ·subst hl;exact h.fr.trans (Fr.ext g H l)
 ·intro u hu yZ
  rw[aO (yZ x (by simp) Gq)]
  exact h.ky u hu fun y hy jh=>yZ y (by simp[hy]) jh
 ·intro y hy jh
  replace hy:=ak hy;rcases hy with hy|rfl
  ·exact Ci y hy jh
  ·exact hp
 ·intro y hy z hz jh lu aF k hk nC
  replace hy:=ak hy;rcases hy with hy|rfl
  ·rw[db (pL y hy)]at hk
   replace hz:=ak hz;rcases hz with hz|rfl
   ·rw[db (pL z hz)]at nC
    exact h.inj y hy z hz jh lu aF k hk nC
   ·have h1:=(h.bz y hy jh).lt hk
    have h2:=hm k nC
    omega
  ·replace hz:=ak hz;rcases hz with hz|rfl
   ·rw[db (pL z hz)]at nC
    have h1:=(h.bz z hz lu).lt nC
    have h2:=hm k hk
    omega
   ·exact aF rfl
theorem Dr.both (h:Dr P n ops mu w0 df mk g0 ws H0 pre L g R H a w)(hd:Hd P n ops mu pre x o)(he:x.early=false)(hp:∀j∈aU o,L.getD j false=true){t:T}{v:Value}(le:Le g w g' w')(sr:SR w0 g' H' w')(hv:VR g' w' t v)(fr:Fr g H g' H')
  (hs:∀y∈pre,L.getD y.i false=false→∀d b,au R y.o.g=true→y.o.d=some d→y.o.op=.b b→gu b=.read→ae R H b=some (R d,H)→ae R H' b=some (R d,H')) :
  Dr P n ops mu w0 df mk g0 ws H0 (pre++[x]) (L.setIfInBounds x.i true) g' (ay R x.o.d t) H' (a.put x.o.d v) w':=by
 have gj:x.i<L.size:=by rw[h.m7];exact(Array.getElem?_eq_some_iff.1 hd.ho).1
 have B8:∀j∈aU o,j<x.i∧L.getD j false=true:=fun j hj=>⟨(hd.pred j hj).1,hp j hj⟩
 obtain⟨op,gd,yX,Fk,xW,C5,yY⟩:=aq hd.co
 have Ch:x.o.d=o.dst:=by rw[xW]
 have C7:∀e,x.o.d=some e→e<a.tmps.size:=fun e h1=>by rw[h.kx];exact yY e (Ch▸h1)
 have pK:∀z∈pre,L.getD z.i false=false→∀u∈z.ts,ay R x.o.d t u=R u:=fun z hz hu u Gr=>aO fun e=>by
  obtain⟨_,h2⟩:=((hd.dst u e).1 z hz).2 Gr
  rw[h.bit hd.ho B8 h2]at hu;cases hu
 have pL:∀z∈pre,∀d,z.o.d=some d→ay R x.o.d t d=R d:=fun z hz d g7=>aO fun e=>((hd.dst d e).1 z hz).1 g7
 refine { m7:=(by simp[h.m7]),cmp:=?_,rd:=?_,dd:=?_,kl:=?_,uniq:=?_,jg:=?_,closed:=?_,sub:=?_,iy:=?_,sr:=sr,le:=h.le.trans le,fr:=h.fr.trans fr,kx:=(by rw[iw];exact h.kx),ky:=?_,bz:=?_,inj:=?_,wg:=(by rw[da];exact h.wg),wh:=(by rw[aO (fun e=>Nat.lt_irrefl n (yY n (Ch▸e)))];exact h.wh) }
 ·intro y hy
  replace hy:=ak hy;rcases hy with hy|rfl
  ·exact h.cmp y hy
  ·exact⟨o,hd.ho,⟨_,hd.co⟩,hd.ts⟩
 ·intro y hy z hz zO d g7 x7
  replace hz:=ak hz;rcases hz with hz|rfl
  ·replace hy:=ak hy;rcases hy with hy|rfl
   ·exact h.rd y hy z hz zO d g7 x7
   ·exact hd.C9 z hz d g7 x7
  ·rw[he]at zO;cases zO
 ·intro y hy z hz d uY g7
  replace hy:=ak hy;rcases hy with hy|rfl
  ·replace hz:=ak hz;rcases hz with hz|rfl
   ·exact h.dd y hy z hz d uY g7
   ·exact absurd uY ((hd.dst d g7).1 y hy).1
  ·replace hz:=ak hz;rcases hz with hz|rfl
   ·exact absurd g7 ((hd.dst d uY).1 z hz).1
   ·rfl
 ·intro y hy nQ o' fm
  replace hy:=ak hy;rcases hy with hy|rfl
  ·exact h.kl y hy nQ o' fm
  ·rw[he]at nQ;cases nQ
 ·intro y hy z hz e
  replace hy:=ak hy;rcases hy with hy|rfl
  ·replace hz:=ak hz;rcases hz with hz|rfl
   ·exact h.uniq y hy z hz e
   ·exact absurd e (hd.ne y hy)
  ·replace hz:=ak hz;rcases hz with hz|rfl
   ·exact absurd e.symm (hd.ne z hz)
   ·rfl
 ·intro y hy o' fm j hj
  replace hy:=ak hy;rcases hy with hy|rfl
  ·exact h.jg y hy o' fm j hj
  ·rw[hd.ho]at fm;cases fm;exact(hd.pred j hj).1
 ·intro i oi xX m8 j hj
  rw[br gj]at m8 ⊢
  by_cases e:x.i=i
  ·subst e
   rw[hd.ho]at xX;cases xX
   obtain⟨h1,h2⟩:=B8 j hj
   exact⟨h1,by split<;>simp[h2]⟩
  ·rw[if_neg e]at m8
   obtain⟨h1,h2⟩:=h.closed i oi xX m8 j hj
   exact⟨h1,by split<;>simp[h2]⟩
 ·intro i m8
  rw[br gj]at m8
  by_cases e:x.i=i
  ·exact⟨x,by simp,e⟩
  ·rw[if_neg e]at m8
   obtain⟨y,hy,e⟩:=h.sub i m8
   exact⟨y,by simp[hy],e⟩
 ·intro y hy nQ
  rw[br gj]
  split
  ·rfl
  ·rename_i aF
   replace hy:=ak hy;rcases hy with hy|rfl
   ·exact h.iy y hy nQ
   ·exact absurd rfl aF
 ·intro u hu yZ
  rw[iv _ _ _ _ C7]
  split
  ·rename_i e;rw[e,dq];exact hv
  ·rename_i e
   rw[aO e]
   exact(h.ky u hu fun y hy jh=>yZ y (by simp[hy]) (by rw[br gj,if_neg (Ne.symm (hd.ne y hy))];exact jh)).mono le
 ·intro y hy jh
  rw[br gj]at jh
  split at jh
  ·cases jh
  ·rename_i aF
   replace hy:=ak hy;rcases hy with hy|rfl
   ·obtain⟨oz,_,_,Db⟩:=h.cmp y hy
    obtain⟨t1,t2,_⟩:=cO Db
    exact(h.bz y hy jh).mono (fun u hu=>pK y hy jh u (t1 u hu)) (fun u hu=>pK y hy jh u (t2 u hu)) (pL y hy) (hs y hy jh) (fun k z _ hz uX hn _=>fr.2 k z hz uX hn)
   ·exact absurd rfl aF
 ·intro y hy z hz jh lu aF k hk nC
  rw[br gj]at jh lu
  split at jh
  ·cases jh
  ·split at lu
   ·cases lu
   ·rename_i Gs CW
    replace hy:=ak hy;rcases hy with hy|rfl
    ·replace hz:=ak hz;rcases hz with hz|rfl
     ·rw[db (pL y hy)]at hk
      rw[db (pL z hz)]at nC
      exact h.inj y hy z hz jh lu aF k hk nC
     ·exact absurd rfl CW
    ·exact absurd rfl Gs
theorem Dr.init (sr:SR w0 g H w)(hn:a.tmps.size=n)(kO:R n=mk)(hr:∀t,t<n→VR g w (R t) (a.tmps.getD t undef))(le:Le g0 ws g w)(fr:Fr g0 H0 g H):Dr P n ops mu w0 a.defers mk g0 ws H0 [] (Array.replicate ops.size false) g R H a w:=by
 have hf:∀i,(Array.replicate ops.size false).getD i false=false:=fun i=>by
  rw[Array.getD_eq_getD_getElem?,Array.getElem?_replicate];split<;>rfl
 refine { m7:=by simp,cmp:=(by simp),rd:=(by simp),dd:=(by simp),kl:=(by simp),uniq:=(by simp),jg:=(by simp),closed:=fun i o _ h=>?_,sub:=fun i h=>?_,iy:=(by simp),sr:=sr,le:=le,fr:=fr,kx:=hn,ky:=fun t ht _=>hr t ht,bz:=(by simp),inj:=(by simp),wg:=rfl,wh:=kO }
 ·rw[hf]at h;cases h
 ·rw[hf]at h;cases h
end
section
variable {P:Program} {w0 w:World} {g:Ctx} {H H':aa} {R:ai} {a:Act} {n:Nat} {ops:Array Oper}
def dH:Bo→Bool
 | .eK _ _ _ _=>true
 | _=>false
theorem cG {b:Bo}(h:dH b=false){neg:Bool}{c:tw}{x y:X}:b≠.eK neg c x y:=by rintro rfl;cases h
theorem qF {ty:TypeId}{x:X}{b:Bo}(h:jz P ty x=some b):dH b=false:=by
 unfold jz at h;(repeat' split at h)<;>cases h<;>rfl
theorem jG {ty:TypeId}{x:X}{f:Nat}{ad:Bool}{b:Bo}(h:fp P ty x f ad=some b):dH b=false:=by
 unfold fp at h;(repeat' split at h)<;>cases h<;>rfl
theorem nR {ty:TypeId}{x i:X}{ad:Bool}{b:Bo}(h:mV P ty x i ad=some b):dH b=false:=by
 unfold mV at h;(repeat' split at h)<;>first|(cases h<;>rfl)|(simp only[Option.map_eq_some_iff]at h;obtain⟨_,_,h⟩:=h;cases h;rfl)
theorem pg {ty:TypeId}{x:X}{lo hi mx:Option X}{b:Bo}(h:gk P ty x lo hi mx=some b):dH b=false:=by
 unfold gk at h;(repeat' split at h)<;>cases h<;>rfl
theorem uZ {ty:TypeId}{x:X}{lo hi mx:Option X}{b:Bo}(h:o3 P ty x lo hi mx=some b):dH b=false:=by
 unfold o3 at h
 split at h
 ·simp only[Option.map_eq_some_iff]at h;obtain⟨_,_,h⟩:=h;cases h;rfl
 ·cases h
theorem qG {src dst:TypeId}{x:X}{b:Bo}(h:jA P src dst x=some b):dH b=false:=by
 unfold jA at h;(repeat' split at h)<;>cases h<;>rfl
theorem m9 {mu:Bool}{dp:List TypeId}{as:List X}{b:Bo}(h:eM P mu dp as=some b):dH b=false:=by
 unfold eM at h;(repeat' split at h)<;>cases h<;>rfl
theorem u0 {dp:List TypeId}{as:List X}{b:Bo}(h:lz P dp as=some b):dH b=false:=by
 unfold lz at h;(repeat' split at h)<;>cases h<;>rfl
theorem lM {mu:Bool}{bt:Builtin}{dp:List TypeId}{as:List X}{b:Bo}(h:dE P mu bt dp as=some b):dH b=false:=by
 unfold dE at h
 split at h
 ·split at h
  ·rename_i b' hz;cases h;exact u0 hz
  ·exact m9 h
 all_goals (repeat' split at h)<;>first|(cases h<;>rfl)|(simp only[Option.map_eq_some_iff]at h;obtain⟨_,_,h⟩:=h;cases h;rfl)
theorem ph {ty:TypeId}{ps:List (Nat×X)}{b:Bo}(h:gm P ty ps=some b):dH b=false:=by
 unfold gm at h;(repeat' split at h)<;>cases h<;>rfl
theorem u1 {mu:Bool}{ty:TypeId}{n:Nat}{ps:List (Nat×X)}{b:Bo}(h:o4 P mu ty n ps=some b):dH b=false:=by
 cases mu<;>unfold o4 at h<;>(repeat' split at h)<;>cases h<;>rfl
theorem u2 {mu:Bool}{ty:TypeId}{l c:X}{b:Bo}(h:o5 P mu ty l c=some b):dH b=false:=by
 unfold o5 at h;(repeat' split at h)<;>cases h<;>rfl
theorem na {mu:Bool}{op:Op}{neg:Bool}{x y:X}(h:aA P mu op=some (.eK neg .slice x y)) :
  ∃y0 ty ox oy yt e,op=.binOp y0 ty ox oy yt∧aj ox=some x∧aj oy=some y∧P.underlying ty=some (.slice e)∧y0=(if neg then .neq else .eql):=by
 cases op<;>simp only[aA,Option.map_eq_some_iff,Option.bind_eq_some_iff]at h
 case binOp y0 ty ox oy yt =>
  cases h1:aj ox with
  | none=>simp[h1]at h
  | some x'=>cases h2:aj oy with
   | none=>simp[h1,h2]at h
   | some y' =>
    simp only[h1,h2]at h
    unfold qp at h
    split at h
    ·cases h
    ·cases h
    ·simp only[Option.map_eq_some_iff]at h;obtain⟨_,_,h⟩:=h;cases h
    ·split at h
     ·split at h<;>cases h
     ·cases h
    ·rename_i d _ _ _ _ hu
     split at h
     ·rename_i n' c hn gY
      cases h
      refine⟨y0,ty,ox,oy,yt,?_⟩
      cases d<;>simp[cls]at gY
      exact⟨_,rfl,h1,h2,hu,by cases y0<;>simp[isEq]at hn<;>subst hn<;>rfl⟩
     ·cases h
    ·cases h
 case load=>obtain⟨_,_,h⟩:=h;exact absurd rfl (cG (qF h))
 case fieldAddr=>obtain⟨_,_,h⟩:=h;exact absurd rfl (cG (jG h))
 case field=>obtain⟨_,_,h⟩:=h;exact absurd rfl (cG (jG h))
 case indexAddr=>split at h;exact absurd rfl (cG (nR h));cases h
 case index=>split at h;exact absurd rfl (cG (nR h));cases h
 case slice =>
  split at h
  ·split at h
   ·exact absurd rfl (cG (uZ h))
   ·exact absurd rfl (cG (pg h))
  ·cases h
 case convert=>obtain⟨_,_,h⟩:=h;exact absurd rfl (cG (qG h))
 case build=>obtain⟨_,_,h⟩:=h;exact absurd rfl (cG (ph h))
 case buildSlice=>obtain⟨_,_,h⟩:=h;exact absurd rfl (cG (u1 h))
 case makeSlice=>split at h;exact absurd rfl (cG (u2 h));cases h
 case call c =>
  obtain⟨callee,args,dp⟩:=c
  cases callee
  case builtin=>simp only[aA,Option.bind_eq_some_iff]at h;obtain⟨_,_,h⟩:=h;exact absurd rfl (cG (lM h))
  case value cv =>
   cases cv<;>simp only[aA]at h<;>(try (cases h;done))
   split at h<;>cases h
  all_goals simp[aA]at h
 case makeMap t r=>cases r<;>simp[aA]at h
 case next it str=>cases str<;>simp[aA]at h
 case range ty m=>split at h;(simp only[Option.map_eq_some_iff]at h;obtain⟨_,_,h⟩:=h;cases h);cases h
 case makeFunc f first ep =>
  cases f<;>simp only[aA]at h
  case func f =>
   split at h
   ·simp only[Option.map_eq_some_iff]at h;obtain⟨_,_,h⟩:=h;cases h
   ·cases h
  all_goals cases h
 all_goals first
  | (cases h;done)
  | (obtain⟨_,_,h⟩:=h;cases h;done)
  | ((repeat' split at h)<;>first|(cases h;done)|(simp only[Option.map_eq_some_iff]at h;obtain⟨_,_,h⟩:=h;cases h;done))
  | (simp only[Option.map_eq_some_iff]at h;obtain⟨_,_,h⟩:=h;cases h)
  | skip
theorem pj {ty e:TypeId}{ox oy:Operand}{ad:Option Addr}{l p:Nat}{neg:Bool}(hu:P.underlying ty=some (.slice e)) :
  (do eqGuard (if neg then .neq else .eql) ty ox oy (.slice ad l p) (.slice none 0 0);binOp (if neg then .neq else .eql) ty (.slice ad l p) (.slice none 0 0)).run P w=.ok (.bool (if neg then !ad.isNone else ad.isNone)) w:=by
 have k1:∀op,(eqGuard op ty ox oy (.slice ad l p) (.slice none 0 0)).run P w=.ok () w:=fun op=>lg
 have k2:(Op.equal ty (.slice ad l p) (.slice none 0 0)).run P w=.ok ad.isNone w:=cr fun n=>by
  rw[Op.equalIn];simp only[Sem.run_bind,run_underlying hu,Result.andThen_ok]
  cases ad<;>simp_all
 have k3:∀neg:Bool,(binOp (if neg then .neq else .eql) ty (.slice ad l p) (.slice none 0 0)).run P w=((Op.equal ty (.slice ad l p) (.slice none 0 0)).run P w).andThen fun b w'=>.ok (.bool (if neg then !b else b)) w':=fun neg=>by cases neg<;>simp[binOp]
 simp only[Sem.run_bind,k1,Result.andThen_ok,k3,k2]
theorem pk {r:Option Nat}{mu:Bool}{o:Oper}{neg:Bool}{x y:X}(hc:ba P mu o.op=some (.b (.eK neg .slice x y)))(hr:cw g w R a (bP o.op.operands.toList))
  (hx:x.ev R=.sl .arg []) (hy:y.ev R=.sl .nil []):∃b:Bool,∀(K:Act→World→Prop) (Q:Exit→Act→World→Prop),K (a.put o.dst (.bool b)) w→o.wpIn (Fw r) 0 P a w K Q:=by
 have jy:=cR hc
 obtain⟨y0,ty,ox,oy,yt,e,ho,h1,h2,hu,rfl⟩:=na (dF hc)
 have Fo:=jF hr
 have v1:=Fo ox (by rw[ho];simp[Op.operands]) x h1
 have v2:=Fo oy (by rw[ho];simp[Op.operands]) y h2
 rw[hx]at v1
 rw[hy]at v2
 generalize h3:a.eval ox=vx at v1
 generalize h4:a.eval oy=vy at v2
 have e2:vy=.slice none 0 0:=by
  cases v2 with
  | slnil=>rfl
  | sl a7 hk=>exact hk.elim
 subst e2
 obtain⟨ad,l,p,rfl⟩:∃ad l p,vx=.slice ad l p:=by cases v1<;>exact⟨_,_,_,rfl⟩
 refine⟨if neg then !ad.isNone else ad.isNone,fun K Q hk=>⟨fun _ _=>trivial,?_⟩⟩
 rw[Oper.semAt_eq _ _ _ jy]
 have aJ:(execOp a.eval o).run P w=.ok (.value (.bool (if neg then !ad.isNone else ad.isNone))) w:=by
  have:=pj (P:=P) (w:=w) (ox:=ox) (oy:=oy) (ad:=ad) (l:=l) (p:=p) (neg:=neg) hu
  simp only[execOp,ho,h3,h4]
  rw[Sem.run_bind,this]
  rfl
 rw[aJ]
 exact hk
end
def dc (g:Ctx)(w:World)(n:Nat)(R:ai)(a:Act):Prop:=a.tmps.size=n∧∀t,t<n→VR g w (R t) (a.tmps.getD t undef)
def ji:Exit→Option Ex
 | .normal=>some .normal
 | .exit id=>some (.exit id)
 | .ret=>some .ret
 | _=>none
def nb (w0:World)(n:Nat)(df:List Deferred)(mk:T)(g:Ctx)(w:World)(H:aa)(Q:Out→aa→Prop):Exit→Act→World→Prop:=fun e a' w' =>
 ∃ex R' g' H',ji e=some ex∧Q (.ex ex R') H'∧Le g w g' w'∧SR w0 g' H' w'∧dc g' w' n R' a'∧Fr g H g' H'∧a'.defers=df∧R' n=mk
def jH (w0:World)(g:Ctx)(w:World)(H:aa)(Q:T→aa→Prop):Ending→World→Prop:=fun e w' =>
 ∃v t g' H',e=.returned v∧Q t H'∧Le g w g' w'∧SR w0 g' H' w'∧VR g' w' t v∧Fr g H g' H'
structure nT (P:Program)(E:Env):Prop where
 mixed:P.follows .mixedOrders=true
 fn:∀f fn,E.fn f=some fn→∃an,af P an f=some fn
 g9:∀f as H Q,E.g9 f as H Q→∀w0 g w args,SR w0 g H w→ax g w as args→bq P f=true∧CallsIn (Fw none) 0 P f args.toArray w (jH w0 g w H Q)
inductive lN (g:Ctx):List T→List Deferred→Prop
 | nil:lN g [] []
 | cons {b r o q ts df} (h:g.φ b=some (r,o,q)) (hs:lN g ts df):lN g (.ptr b 0 :: ts) ({ target:=.collected r,args:=#[] } :: df)
theorem lN.mono {g g':Ctx}{w w':World}(le:Le g w g' w'){ts:List T}{df:List Deferred}(h:lN g ts df):lN g' ts df:=by
 induction h with
 | nil=>exact .nil
 | cons h _ ih=>exact .cons (le.φ _ _ h) ih
def Mk (g:Ctx)(t:T)(df:List Deferred):Prop:=∃ts,t=.bg ts∧lN g ts df
theorem Mk.mono {g g':Ctx}{w w':World}(le:Le g w g' w'){t:T}{df:List Deferred}(h:Mk g t df):Mk g' t df:=let ⟨ts,e,h⟩:=h;⟨ts,e,h.mono le⟩
def eE (w0:World)(n:Nat)(hr:Bool)(df:List Deferred)(mk:T)(g:Ctx)(w:World)(H:aa)(Q:Out→aa→Prop):Exit→Act→World→Prop:=fun e a' w' =>
 ∃ex R' g' H',ji e=some ex∧Q (.ex ex R') H'∧Le g w g' w'∧SR w0 g' H' w'∧dc g' w' n R' a'∧Fr g H g' H'∧(Mk g mk df→Mk g' (R' n) a'.defers)∧(hr=false→R' n=mk∧a'.defers=df)
def bZ (P:Program)(g:Ctx):Prop:=∀n c k,g.ck n c k↔∃an,aw P n an false k=some c
theorem bZ.mono {P:Program}{g g':Ctx}{w w':World}(le:Le g w g' w')(h:bZ P g):bZ P g':=fun n c k=>by rw[le.ck];exact h n c k
def iA (F:Fence)(n:Nat)(P:Program)(c:Code)(Q:Exit→Act→World→Prop)(a:Act)(w:World):Prop :=
 ∀(b:Frame) (k:List Item) (cs:List Frame),b.roundOf=F.round→F.fn b.fn→F.room (cs.length+1+n) →
  ∃e a' w',Q e a' w'∧ArrivesIn (Machine.fenced P F) P (lone (b.atR a (.code c :: .inLoop c :: k)) cs w) b k cs e a' w'
theorem lO {F:Fence}{n:Nat}{P:Program}{c:Code}{Q:Exit→Act→World→Prop}{a:Act}{w:World}(h:c.wpIn F n P (Exit.then (iA F n P c Q) Q) a w):iA F n P c Q a w:=by
 intro b k cs Cj hb hr
 obtain⟨e,a₁,w₁,hq,fL⟩:=h b (.inLoop c :: k) cs Cj hb hr
 cases e with
 | normal =>
  obtain⟨e₂,a₂,w₂,Gt,zP⟩:=hq b k cs Cj hb hr
  exact⟨e₂,a₂,w₂,Gt,.of_steps (StepsIn.trans fL (.one (fenced_calm hb hr rfl) stepR_inLoop)) zP⟩
 | exit id=>exact⟨_,a₁,w₁,hq,.pass (x:=.inLoop c) rfl (fun _ _=>.inl (by simp)) fL⟩
 | goto l=>exact⟨_,a₁,w₁,hq,.pass (x:=.inLoop c) rfl (fun _ _=>.inl (by simp)) fL⟩
 | ret=>exact⟨_,a₁,w₁,hq,.pass (x:=.inLoop c) rfl (fun _ _=>.inl (by simp)) fL⟩
 | panic ch=>exact⟨_,a₁,w₁,hq,.pass (x:=.inLoop c) rfl (fun _ _=>.inl (by simp)) fL⟩
 | outgrown=>exact⟨_,a₁,w₁,hq,.pass (x:=.inLoop c) rfl (fun _ _=>.inl (by simp)) fL⟩
theorem pn {F:Fence}{n:Nat}{P:Program}{c:Code}{Q:Exit→Act→World→Prop}{a:Act}{w:World}(h:iA F n P c Q a w):(Code.loop c).wpIn F n P Q a w :=
 fun b k cs Cj hb hr=>let ⟨e,a',w',hq,fL⟩:=h b k cs Cj hb hr;⟨e,a',w',hq,.of_steps (.one (fenced_calm hb hr rfl) stepR_loop) fL⟩
section
variable {P:Program} {w0 w ws:World} {g g0:Ctx} {H H0 H':aa} {R:ai} {a:Act} {n:Nat} {ops:Array Oper} {r:Option Nat} {mu:Bool} {i:Nat} {o:Oper} {st iV:List Rd}
theorem fQ {y:O}(hc:bW P n ops mu o st=some y):∀t∈tmpsOf o y.op y.g,t<n:=by
 obtain⟨op,gd,_,_,rfl,h,_⟩:=aq hc;exact h
theorem nU {d:Option Nat}{op:td}{gd:Gd}(ho:ops[i]?=some o)(hc:bW P n ops mu o st=some ⟨d,op,gd,iV⟩)(hn:a.tmps.size=n)(hr:cw g w R a (tmpsOf o op gd))(hw:au R gd=false)
  {K:Act→World→Prop} {Q:Exit→Act→World→Prop} (hk:K (a.put d undef) w):wpOpIn (Fw r) 0 P ops Q i K a w:=by
 obtain⟨x8,x9,h1,h2,h3,h4,h5⟩:=aq hc
 cases h3
 unfold wpOpIn
 simp only[ho,gv h2 hn (fun t ht=>h4 t (by simp[tmpsOf,ht])) (hr.sub fun t ht=>by simp[tmpsOf,ht]),hw]
 exact⟨fun _ _=>trivial,hk⟩
theorem cS {d:Option Nat}{op:td}{gd:Gd}(ho:ops[i]?=some o)(hc:bW P n ops mu o st=some ⟨d,op,gd,iV⟩)(hn:a.tmps.size=n)(hr:cw g w R a (tmpsOf o op gd))(hw:au R gd=true)
  {K:Act→World→Prop} {Q:Exit→Act→World→Prop} (hk:o.wpIn (Fw r) 0 P a w K Q):wpOpIn (Fw r) 0 P ops Q i K a w:=by
 obtain⟨x8,x9,h1,h2,h3,h4,h5⟩:=aq hc
 cases h3
 unfold wpOpIn
 simp only[ho,gv h2 hn (fun t ht=>h4 t (by simp[tmpsOf,ht])) (hr.sub fun t ht=>by simp[tmpsOf,ht]),hw,if_true]
 exact hk
theorem eR {op:td}{gd:Gd}(hr:cw g w R a (tmpsOf o op gd)):cw g w R a (bP o.op.operands.toList):=hr.sub fun t ht=>by simp[tmpsOf,ht]
theorem kz {d:Option Nat}{b:Bo}{gd:Gd}{t:T}(ho:ops[i]?=some o)(hc:bW P n ops mu o st=some ⟨d,.b b,gd,iV⟩)(hn:a.tmps.size=n)(hr:cw g w R a (tmpsOf o (.b b) gd))(hw:au R gd=true)
  (h:SR w0 g H w) (he:ae R H b=some (t,H')) :
  ∃v w' g',(∀(K:Act→World→Prop) (Q:Exit→Act→World→Prop),K (a.put d v) w'→wpOpIn (Fw r) 0 P ops Q i K a w)∧Le g w g' w'∧SR w0 g' H' w'∧VR g' w' t v∧Fr g H g' H':=by
 obtain⟨x8,x9,h1,h2,h3,h4,h5⟩:=aq hc
 cases h3
 obtain⟨v,w',g',hs,rest⟩:=qB (r:=r) h1 h (eR hr) he
 exact⟨v,w',g',fun K Q hk=>cS ho hc hn hr hw (hs K Q hk),rest⟩
theorem lP {d:Option Nat}{x:X}{gd:Gd}{b bi:Nat}{es:List (T×T)}{ix:List Nat}{cur:Option Nat}(ho:ops[i]?=some o)(hc:bW P n ops mu o st=some ⟨d,.b (.gL x),gd,iV⟩)(hn:a.tmps.size=n)(hr:cw g w R a (tmpsOf o (.b (.gL x)) gd))(hw:au R gd=true)
  (h:SR w0 g H w) (hx:x.ev R=.ptr bi 0) (hb:H[b]?=some (.cm es ix bi cur)) :
  ∃t H' v w' g',fD H b bi es ix t H'∧(∀(K:Act→World→Prop) (Q:Exit→Act→World→Prop),K (a.put d v) w'→wpOpIn (Fw r) 0 P ops Q i K a w)∧Le g w g' w'∧SR w0 g' H' w'∧VR g' w' t v∧Fr g H g' H':=by
 obtain⟨x8,x9,h1,h2,h3,h4,h5⟩:=aq hc
 cases h3
 obtain⟨t,H',v,w',g',uX,hs,rest⟩:=qC (r:=r) h1 h (eR hr) hx hb
 exact⟨t,H',v,w',g',uX,fun K Q hk=>cS ho hc hn hr hw (hs K Q hk),rest⟩
theorem jI {d:Option Nat}{neg:Bool}{x y:X}{gd:Gd}(ho:ops[i]?=some o)(hc:bW P n ops mu o st=some ⟨d,.b (.eK neg .slice x y),gd,iV⟩)(hn:a.tmps.size=n)(hr:cw g w R a (tmpsOf o (.b (.eK neg .slice x y)) gd))(hw:au R gd=true)
  (hx:x.ev R=.sl .arg []) (hy:y.ev R=.sl .nil []):∃b:Bool,∀(K:Act→World→Prop) (Q:Exit→Act→World→Prop),K (a.put d (.bool b)) w→wpOpIn (Fw r) 0 P ops Q i K a w:=by
 obtain⟨x8,x9,h1,h2,h3,h4,h5⟩:=aq hc
 cases h3
 obtain⟨b,hs⟩:=pk (r:=r) h1 (eR hr) hx hy
 exact⟨b,fun K Q hk=>cS ho hc hn hr hw (hs K Q hk)⟩
theorem jJ {d:Option Nat}{f:Nat}{as:List X}{gd:Gd}{M:T→aa→Prop}(ho:ops[i]?=some o)(hc:bW P n ops mu o st=some ⟨d,.call f as,gd,iV⟩)(hn:a.tmps.size=n)(hr:cw g w R a (tmpsOf o (.call f as) gd))(hw:au R gd=true)
  (ih:∀args,ax g w (as.map (X.ev R)) args→bq P f=true∧CallsIn (Fw none) 0 P f args.toArray w (jH w0 g w H M)) {K:Act→World→Prop} {Q:Exit→Act→World→Prop}
  (hk:∀v w' g' H' t,M t H'→Le g w g' w'→SR w0 g' H' w'→VR g' w' t v→Fr g H g' H'→K (a.put d v) w'):wpOpIn (Fw r) 0 P ops Q i K a w:=by
 obtain⟨x8,x9,h1,h2,h3,h4,h5⟩:=aq hc
 cases h3
 obtain⟨args,hv,hs⟩:=pc (r:=r) h1 (eR hr)
 obtain⟨k1,k2⟩:=ih args hv
 exact cS ho hc hn hr hw (hs K Q k1 (k2.mono fun e w' ⟨v,t,g',H',he,hM,le,sr,bR,fr⟩=>⟨v,he,hk v w' g' H' t hM le sr bR fr⟩))
theorem iB {d:Option Nat}{x:X}{f:Nat}{cs:List T}{as:List X}{gd:Gd}{M:T→aa→Prop}(ho:ops[i]?=some o)(hc:bW P n ops mu o st=some ⟨d,.a6 x as,gd,iV⟩)(hn:a.tmps.size=n)(hr:cw g w R a (tmpsOf o (.a6 x as) gd))(hw:au R gd=true)
  (hx:x.ev R=.fn f cs) (ih:∀args,ax g w (as.map (X.ev R)++cs) args→bq P f=true∧CallsIn (Fw none) 0 P f args.toArray w (jH w0 g w H M)) {K:Act→World→Prop} {Q:Exit→Act→World→Prop}
  (hk:∀v w' g' H' t,M t H'→Le g w g' w'→SR w0 g' H' w'→VR g' w' t v→Fr g H g' H'→K (a.put d v) w'):wpOpIn (Fw r) 0 P ops Q i K a w:=by
 obtain⟨x8,x9,h1,h2,h3,h4,h5⟩:=aq hc
 cases h3
 obtain⟨args,hv,hs⟩:=m6 (r:=r) h1 (eR hr) hx
 obtain⟨k1,k2⟩:=ih args hv
 exact cS ho hc hn hr hw (hs K Q k1 (k2.mono fun e w' ⟨v,t,g',H',he,hM,le,sr,bR,fr⟩=>⟨v,he,hk v w' g' H' t hM le sr bR fr⟩))
theorem dc.put {d:Option Nat}{v:Value}{t:T}{w':World}{g':Ctx}(h:dc g w n R a)(hd:∀e,d=some e→e<n)(le:Le g w g' w')(hv:VR g' w' t v):dc g' w' n (ay R d t) (a.put d v):=by
 refine⟨by rw[iw];exact h.1,fun u hu=>?_⟩
 rw[iv _ _ _ _ (by rw[h.1];exact hd)]
 split
 ·rename_i e;rw[e,dq];exact hv
 ·rename_i e;rw[aO e];exact(h.2 u hu).mono le
theorem dc.rg (h:dc g w n R a){ts:List Nat}(ht:∀t∈ts,t<n):cw g w R a ts:=fun t hm=>h.2 t (ht t hm)
end
section
variable {P:Program} {n:Nat} {ops:Array Oper} {mu:Nat→Bool} {w0 ws:World} {df:List Deferred} {mk:T} {g0:Ctx} {H0:aa} {pre:List It} {r:Option Nat} {x:It} {o:Oper} {Q:Out→aa→Prop}
def left (L:Array Bool):Nat:=L.toList.count false
theorem iC {L:Array Bool}{i:Nat}(hi:i<L.size)(hf:L.getD i false=false):left (L.setIfInBounds i true)+1=left L:=by
 unfold left
 rw[Array.toList_setIfInBounds,List.count_set (by simpa using hi)]
 have hg:L.toList[i]'(by simpa using hi)=false:=by
  rw[Array.getD_eq_getD_getElem?,Array.getElem?_eq_getElem hi,Option.getD_some]at hf
  simpa using hf
 have xN:0<L.toList.count false:=List.count_pos_iff.2 (hg▸List.getElem_mem _)
 rw[hg]
 have e1:((false==false:Bool)=true):=rfl
 have e2:¬((true==false:Bool)=true):=by decide
 rw[if_pos e1,if_neg e2]
 omega
theorem jK {L:Array Bool}(h:left L=0){i:Nat}(hi:i<L.size):L.getD i false=true:=by
 cases e:L.getD i false with
 | true=>rfl
 | false=>have:=iC hi e;omega
theorem jL {L:Array Bool}(cW:L.size=ops.size)(xS:∀i o,ops[i]?=some o→∀j∈aU o,j<i)(h:Region.ready .any ops L=[]):∀i,i<ops.size→L.getD i false=true:=by
 intro i
 induction i using Nat.strongRecOn with
 | _ i ih =>
  intro hi
  cases e:L.getD i false with
  | true=>rfl
  | false =>
   have:i∈Region.ready .any ops L:=by
    rw[mem_ready]
    refine⟨?_,ops[i],Array.getElem?_eq_getElem hi,fun ed he hb=>?_⟩
    ·have fV:i<L.size:=by omega
     rw[Array.getD_eq_getD_getElem?,Array.getElem?_eq_getElem fV]at e ⊢;exact e
    ·have hj:ed.on∈aU ops[i]:=by simp only[aU,List.mem_map,List.mem_filter];exact⟨ed,⟨by simpa using he,hb⟩,rfl⟩
     have:=xS i _ (Array.getElem?_eq_getElem hi) _ hj
     exact ih _ this (by omega)
   rw[h]at this;cases this
theorem po {R:ai}{H:aa}(er:∀i,i<ops.size→∃y∈pre,y.i=i)(hQ:Q (.ex .normal R) H):∀(fuel:Nat) (L:Array Bool) (g:Ctx) (a:Act) (w:World),left L≤fuel→Dr P n ops mu w0 df mk g0 ws H0 pre L g R H a w →
  wpAnyIn (Fw r) 0 P .any ops (nb w0 n df mk g0 ws H0 Q) fuel L a w:=by
 have fin:∀(L:Array Bool) (g:Ctx) (a:Act) (w:World),Dr P n ops mu w0 df mk g0 ws H0 pre L g R H a w→(∀i,i<ops.size→L.getD i false=true)→nb w0 n df mk g0 ws H0 Q .normal a w:=by
  intro L g a w h hl
  refine⟨.normal,R,g,H,rfl,hQ,h.le,h.sr,⟨h.kx,fun t ht=>h.ky t ht fun y hy hu=>?_⟩,h.fr,h.wg,h.wh⟩
  obtain⟨o,ho,_⟩:=h.cmp y hy
  rw[hl y.i (Array.getElem?_eq_some_iff.1 ho).1]at hu;cases hu
 have xS:∀(L:Array Bool) (g:Ctx) (a:Act) (w:World),Dr P n ops mu w0 df mk g0 ws H0 pre L g R H a w→∀i o,ops[i]?=some o→∀j∈aU o,j<i:=by
  intro L g a w h i o ho
  obtain⟨y,hy,rfl⟩:=er i (Array.getElem?_eq_some_iff.1 ho).1
  exact h.jg y hy o ho
 intro fuel
 induction fuel with
 | zero =>
  intro L g a w hL h
  have hl:∀i,i<ops.size→L.getD i false=true:=fun i hi=>jK (by omega) (by rw[h.m7];exact hi)
  refine⟨?_,fin L g a w h hl⟩
  refine List.eq_nil_iff_forall_not_mem.2 fun i hi=>?_
  obtain⟨h1,o,h2,_⟩:=eQ hi
  rw[hl i (Array.getElem?_eq_some_iff.1 h2).1]at h1;cases h1
 | succ fuel ih =>
  intro L g a w hL h
  refine⟨fun hr=>fin L g a w h (jL h.m7 (xS L g a w h) hr),fun i hi=>?_⟩
  obtain⟨h1,o,h2,_⟩:=eQ hi
  have aC:=(Array.getElem?_eq_some_iff.1 h2).1
  obtain⟨y,hy,rfl⟩:=er i aC
  obtain⟨v,w',g',hs,hd⟩:=h.late (r:=r) hy hi
  have:=iC (by rw[h.m7];exact aC) h1
  exact hs _ _ (ih _ _ _ _ (by omega) hd)
theorem bF {R:ai}{H:aa}{Tl:ai→aa→Prop}{Qx:Exit→Act→World→Prop}{l:List It}(hd:Hd P n ops mu pre x o)(hx:x.early=false)(er:∀i,i<ops.size→∃y∈pre++x :: l,y.i=i)
  (zQ:∀y∈l,(∃o,ops[y.i]?=some o∧(∀j∈aU o,j<y.i))∧∀z∈pre++[x],z.early=true∨((bM ops.toList []).getD y.i 0).testBit z.i=true)
  (hT:∀R' H',Tl R' H'→∀fuel L' g' a' w',left L'≤fuel→Dr P n ops mu w0 df mk g0 ws H0 (pre++[x]) L' g' R' H' a' w'→wpAnyIn (Fw r) 0 P .any ops Qx fuel L' a' w')
  (hX:∀L g a w,Dr P n ops mu w0 df mk g0 ws H0 pre L g R H a w→(∀j∈aU o,L.getD j false=true)→∀K:Act→World→Prop,
   (∀R' H' g' a' w',Tl R' H'→Dr P n ops mu w0 df mk g0 ws H0 (pre++[x]) (L.setIfInBounds x.i true) g' R' H' a' w'→K a' w')→wpOpIn (Fw r) 0 P ops Qx x.i K a w) :
  ∀(fuel:Nat) (L:Array Bool) (g:Ctx) (a:Act) (w:World),left L≤fuel→Dr P n ops mu w0 df mk g0 ws H0 pre L g R H a w→wpAnyIn (Fw r) 0 P .any ops Qx fuel L a w:=by
 have ti:x.i<ops.size:=(Array.getElem?_eq_some_iff.1 hd.ho).1
 intro fuel
 induction fuel with
 | zero =>
  intro L g a w hL h
  have h1:=h.ft hd
  rw[jK (by omega) (by rw[h.m7];exact ti)]at h1;cases h1
 | succ fuel ih =>
  intro L g a w hL h
  have xq:=h.ft hd
  refine⟨fun hr=>?_,fun i hi=>?_⟩
  ·have hl:=jL h.m7 (fun i o' fm j hj=>?_) hr x.i ti
   ·rw[hl]at xq;cases xq
   ·obtain⟨y,hy,rfl⟩:=er i (Array.getElem?_eq_some_iff.1 fm).1
    rcases List.mem_append.1 hy with hy|hy
    ·exact h.jg y hy o' fm j hj
    ·rcases List.mem_cons.1 hy with rfl|hy
     ·rw[hd.ho]at fm;cases fm;exact(hd.pred j hj).1
     ·obtain⟨⟨o2,h2,h3⟩,_⟩:=zQ y hy
      rw[h2]at fm;cases fm;exact h3 j hj
  ·obtain⟨h1,o',h2,h3⟩:=eQ hi
   have aC:=(Array.getElem?_eq_some_iff.1 h2).1
   have Gu:=iC (by rw[h.m7];exact aC) h1
   obtain⟨y,hy,rfl⟩:=er i aC
   rcases List.mem_append.1 hy with hy|hy
   ·obtain⟨v,w',g',hs,Dc⟩:=h.late (r:=r) hy hi
    exact hs _ _ (ih _ _ _ _ (by omega) Dc)
   ·rcases List.mem_cons.1 hy with rfl|hy
    ·rw[hd.ho]at h2;cases h2
     exact hX L g a w h h3 _ fun R' H' g' a' w' ht Dc=>hT R' H' ht fuel _ g' a' w' (by omega) Dc
    ·obtain⟨⟨o2,h4,h5⟩,h6⟩:=zQ y hy
     rw[h2]at h4;cases h4
     rcases h6 x (by simp)with h7|h7
     ·rw[hx]at h7;cases h7
     ·have:=h.bit h2 (fun j hj=>⟨h5 j hj,h3 j hj⟩) h7
      rw[xq]at this;cases this
end
def Dd (P : Program) : J → aa → (Out → aa → Prop) → Prop
  | .code c R, H, Q => ∀(w0 : World) (g : Ctx) (w : World) (a : Act) (n : Nat) (an : An) (top : Bool) (code : Code) (r : Option Nat), aw P n an top code = some c → (top = true → r = none) → bZ P g → SR w0 g H w → dc g w n R a →
      code.wpIn (Fw r) 0 P (eE w0 n c.eg a.defers (R n) g w H Q) a w ∧ ∀body, code = .loop body → iA (Fw r) 0 P body (eE w0 n c.eg a.defers (R n) g w H Q) a w
  | .ops l R, H, Q => (∀(w0 : World) (g0 : Ctx) (ws : World) (H0 : aa) (g : Ctx) (w : World) (a : Act) (n : Nat) (ops : Array Oper) (mu : Nat → Bool) (is : List Nat) (r : Option Nat), cj P n ops mu is = some l → bZ P g → SR w0 g H w → dc g w n R a →
        Le g0 ws g w → Fr g0 H0 g H → wpOpsIn (Fw r) 0 P ops (nb w0 n a.defers (R n) g0 ws H0 Q) is a w) ∧
      (∀(w0 : World) (n : Nat) (ops : Array Oper) (mu : Nat → Bool) (df : List Deferred) (mk : T) (g0 : Ctx) (ws : World) (H0 : aa) (pre : List It) (L : Array Bool) (g : Ctx) (a : Act) (w : World) (ord : List (Nat×Bool)) (dK : List It) (r : Option Nat) (fuel : Nat),
        bZ P g → bA P n ops mu (bM ops.toList []) pre ord = some dK → dK.map (·.o) = l → Dr P n ops mu w0 df mk g0 ws H0 pre L g R H a w → left L ≤ fuel → wpAnyIn (Fw r) 0 P .any ops (nb w0 n df mk g0 ws H0 Q) fuel L a w)
  | .call f as, H, Q => ∀(w0 : World) (g : Ctx) (w : World) (args : List Value), bZ P g → SR w0 g H w → ax g w as args → bq P f = true ∧ CallsIn (Fw none) 0 P f args.toArray w (jH w0 g w H fun v H' => Q (.val v) H')
theorem eE.trans {w0 w w':World}{n:Nat}{hr eY:Bool}{df De:List Deferred}{mk mk':T}{g g':Ctx}{H H':aa}{Q:Out→aa→Prop}(le:Le g w g' w')(fr:Fr g H g' H')(hm:Mk g mk df→Mk g' mk' De)(hh:hr=false→eY=false∧mk'=mk∧De=df)
  {e:Exit} {a:Act} {u:World} (h:eE w0 n eY De mk' g' w' H' Q e a u):eE w0 n hr df mk g w H Q e a u:=by
 obtain⟨ex,R',g2,H2,h1,h2,h3,h4,h5,h6,h7,h8⟩:=h
 refine⟨ex,R',g2,H2,h1,h2,le.trans h3,h4,h5,fr.trans h6,fun m=>h7 (hm m),fun e=>?_⟩
 obtain⟨k1,k2,k3⟩:=hh e
 obtain⟨k4,k5⟩:=h8 k1
 exact⟨k4.trans k2,k5.trans k3⟩
theorem nb.Fp {w0 w:World}{n:Nat}{hr:Bool}{df:List Deferred}{mk:T}{g:Ctx}{H:aa}{Q:Out→aa→Prop}{e:Exit}{a:Act}{u:World}(h:nb w0 n df mk g w H Q e a u):eE w0 n hr df mk g w H Q e a u:=by
 obtain⟨ex,R',g2,H2,h1,h2,h3,h4,h5,h6,h7,h8⟩:=h
 exact⟨ex,R',g2,H2,h1,h2,h3,h4,h5,h6,fun m=>by rw[h7,h8];exact m.mono h3,fun _=>⟨h8,h7⟩⟩
section
variable {P:Program} {n:Nat} {an:An} {top:Bool} {code:Code}
theorem qH (h:aw P n an top code=some .skip):code=.skip:=by
 cases code<;>(try simp only[aw]at h)
 case region id ops draw=>cases draw<;>simp only[aw]at h<;>(repeat' split at h)<;>simp at h
 all_goals first|rfl|(cases h;done)|((repeat' split at h)<;>simp at h;done)|(simp at h;done)
theorem qI {id:Nat}(h:aw P n an top code=some (.exit id)):code=.exit id:=by
 cases code<;>(try simp only[aw]at h)
 case region id ops draw=>cases draw<;>simp only[aw]at h<;>(repeat' split at h)<;>simp at h
 all_goals first|(cases h;rfl)|(cases h;done)|((repeat' split at h)<;>simp at h;done)|(simp at h;done)
theorem u3 (h:aw P n an top code=some .ret):code=.ret:=by
 cases code<;>(try simp only[aw]at h)
 case region id ops draw=>cases draw<;>simp only[aw]at h<;>(repeat' split at h)<;>simp at h
 all_goals first|rfl|(cases h;done)|((repeat' split at h)<;>simp at h;done)|(simp at h;done)
theorem u4 {x y:C}(h:aw P n an top code=some (.seq x y)):∃c d,code=.seq c d∧aw P n an top c=some x∧aw P n an top d=some y:=by
 cases code<;>(try simp only[aw]at h)
 case region id ops draw=>cases draw<;>simp only[aw]at h<;>(repeat' split at h)<;>simp at h
 case seq c d =>
  split at h
  ·rename_i h1 h2;cases h;exact⟨c,d,rfl,h1,h2⟩
  ·cases h
 all_goals first|(cases h;done)|((repeat' split at h)<;>simp at h;done)|(simp at h;done)
theorem qJ {c:X}{x y:C}(h:aw P n an top code=some (.cond c x y)):∃o d e,code=.cond o d e∧aj o=some c∧aw P n an top d=some x∧aw P n an top e=some y∧∀t,o=.tmp t→t<n:=by
 cases code<;>(try simp only[aw]at h)
 case region id ops draw=>cases draw<;>simp only[aw]at h<;>(repeat' split at h)<;>simp at h
 case cond o d e =>
  split at h
  ·rename_i h1 h2 h3
   cases o with
   | tmp t =>
    simp only[decide_eq_true_eq]at h
    split at h
    ·rename_i h4;cases h;exact⟨_,d,e,rfl,h1,h2,h3,fun t' ht=>by cases ht;exact h4⟩
    ·cases h
   | _=>simp at h;obtain⟨rfl,rfl,rfl⟩:=h;exact⟨_,d,e,rfl,h1,h2,h3,fun t ht=>by cases ht⟩
  ·cases h
 all_goals first|(cases h;done)|((repeat' split at h)<;>simp at h;done)|(simp at h;done)
theorem pq {id:Nat}{x:C}(h:aw P n an top code=some (.block id x)):∃c,code=.block id c∧aw P n an top c=some x:=by
 cases code<;>(try simp only[aw]at h)
 case region id ops draw=>cases draw<;>simp only[aw]at h<;>(repeat' split at h)<;>simp at h
 case block Gv c =>
  simp only[Option.map_eq_some_iff]at h
  obtain⟨x',h1,h2⟩:=h
  cases h2;exact⟨c,rfl,h1⟩
 all_goals first|(cases h;done)|((repeat' split at h)<;>simp at h;done)|(simp at h;done)
theorem qK {x:C}(h:aw P n an top code=some (.loop x)):∃c,code=.loop c∧aw P n an top c=some x:=by
 cases code<;>(try simp only[aw]at h)
 case region id ops draw=>cases draw<;>simp only[aw]at h<;>(repeat' split at h)<;>simp at h
 case loop c =>
  simp only[Option.map_eq_some_iff]at h
  obtain⟨x',h1,h2⟩:=h
  cases h2;exact⟨c,rfl,h1⟩
 all_goals first|(cases h;done)|((repeat' split at h)<;>simp at h;done)|(simp at h;done)
theorem pr {m:Nat}{x:X}{ps:List Nat}{y z:C}(h:aw P n an top code=some (.bo m x ps y z)):∃g qs c d,code=.rangeFunc g qs c d∧aj g=some x∧aw P n an false c=some y∧aw P n an false d=some z∧top=true∧(∀t∈bn x,t<n)∧qs.toList=ps∧(∀p∈ps,p<n)∧m=n:=by
 cases code<;>(try simp only[aw]at h)
 case region id ops draw=>cases draw<;>simp only[aw]at h<;>(repeat' split at h)<;>simp at h
 case rangeFunc g qs c d =>
  split at h
  ·rename_i h1 h2 h3
   split at h
   ·rename_i h4
    cases h
    simp only[Bool.and_eq_true,List.all_eq_true,decide_eq_true_eq]at h4
    exact⟨g,qs,c,d,rfl,h1,h2,h3,h4.1.1,h4.1.2,rfl,h4.2,rfl⟩
   ·cases h
  ·cases h
 all_goals first|(cases h;done)|((repeat' split at h)<;>simp at h;done)|(simp at h;done)
theorem u5 {l:List O}(h:aw P n an top code=some (.ops l)):∃id ops mu,(code=.region id ops false∧cj P n ops mu (List.range ops.size)=some l) ∨
  (code=.region id ops true∧∃ord dK,bA P n ops mu (bM ops.toList []) [] ord=some dK∧dK.map (·.o)=l):=by
 cases code<;>(try simp only[aw]at h)
 case region id ops draw =>
  cases draw<;>simp only[aw]at h
  ·simp only[Option.map_eq_some_iff]at h
   obtain⟨l',h1,h2⟩:=h
   cases h2;exact⟨id,ops,_,.inl ⟨rfl,h1⟩⟩
  ·split at h
   ·rename_i ord _
    simp only[Option.map_eq_some_iff]at h
    obtain⟨dK,h1,h2⟩:=h
    cases h2;exact⟨id,ops,_,.inr ⟨rfl,ord,dK,h1,rfl⟩⟩
   ·cases h
 all_goals first|(cases h;done)|((repeat' split at h)<;>simp at h;done)|(simp at h;done)
end
theorem bd {P:Program}{n:Nat}{ops:Array Oper}{mu:Nat→Bool}{is:List Nat}{o:O}{l:List O}(h:cj P n ops mu is=some (o :: l)) :
  ∃i iW oper,is=i :: iW∧ops[i]?=some oper∧bW P n ops (mu i) oper []=some o∧cj P n ops mu iW=some l:=by
 cases is with
 | nil=>simp[cj]at h
 | cons i iW =>
  simp only[cj]at h
  split at h
  ·rename_i oper ho
   split at h
   ·rename_i h1 h2;cases h;exact⟨i,iW,oper,rfl,ho,h1,h2⟩
   ·cases h
  ·cases h
theorem lQ {P:Program}{n:Nat}{ops:Array Oper}{mu:Nat→Bool}{is:List Nat}(h:cj P n ops mu is=some []):is=[]:=by
 cases is with
 | nil=>rfl
 | cons i iW =>
  simp only[cj]at h
  split at h
  ·split at h<;>simp at h
  ·cases h
theorem cy {P:Program}{n:Nat}{ops:Array Oper}{mu:Nat→Bool}{pre:List It}{ord:List (Nat×Bool)}{dK:List It}{o:O}{l:List O}(h:bA P n ops mu (bM ops.toList []) pre ord=some dK)(hm:dK.map (·.o)=o :: l) :
  ∃x l' bS oper,dK=x :: l'∧x.o=o∧l'.map (·.o)=l∧Hd P n ops mu pre x oper∧bA P n ops mu (bM ops.toList []) (pre++[x]) bS=some l':=by
 cases ord with
 | nil =>
  simp only[bA]at h
  split at h
  ·cases h;simp at hm
  ·cases h
 | cons y bS =>
  obtain⟨x,l',oper,rfl,h1,h2⟩:=dZ h
  simp only[List.map_cons,List.cons.injEq]at hm
  exact⟨x,l',bS,oper,rfl,hm.1,hm.2,h1,h2⟩
section
variable {P:Program} {n:Nat} {ops:Array Oper} {mu:Nat→Bool} {w0 w ws:World} {df:List Deferred} {mk:T} {g g0:Ctx} {H H0 H':aa} {pre:List It} {L:Array Bool} {R:ai} {a:Act} {r:Option Nat} {x:It} {o:Oper}
theorem Hd.sub (hd:Hd P n ops mu pre x o)(v:T):(∀t∈e6 x.o.g,ay R x.o.d v t=R t)∧∀t∈lD x.o.op,ay R x.o.d v t=R t:=by
 obtain⟨t1,t2,_⟩:=cO hd.ts
 exact⟨fun t ht=>aO fun e=>(hd.dst t e).2 (t1 t ht),fun t ht=>aO fun e=>(hd.dst t e).2 (t2 t ht)⟩
theorem Dr.u6 (h:Dr P n ops mu w0 df mk g0 ws H0 pre L g R H a w)(hd:Hd P n ops mu pre x o)(he:x.early=true)(hw:au R x.o.g=false):Dr P n ops mu w0 df mk g0 ws H0 (pre++[x]) L g (ay R x.o.d av) H a w:=by
 refine h.take hd he (.inl ⟨?_,fun d e=>by rw[e,dq]⟩) (.inl rfl) fun k hk=>?_
 ·rw[eD (R':=R) (hd.sub av).1];exact hw
 ·unfold dY at hk
  split at hk
  ·rename_i e _;rw[e,dq]at hk;cases hk
  ·rename_i e _;rw[e,dq]at hk;cases hk
  ·cases hk
theorem Dr.u7 {b:Bo}{v:T}(h:Dr P n ops mu w0 df mk g0 ws H0 pre L g R H a w)(hd:Hd P n ops mu pre x o)(he:x.early=true)(hb:x.o.op=.b b)(hw:au R x.o.g=true)(hv:ae R H b=some (v,H')) :
  Dr P n ops mu w0 df mk g0 ws H0 (pre++[x]) L g (ay R x.o.d v) H' a w:=by
 obtain⟨k1,k2⟩:=hd.kl he
 cases u9:x.o.d with
 | none=>exact absurd (by simp[tq,hb,u9]) k1
 | some d =>
  have Gw:tq x.o=gu b:=by simp[tq,hb,u9]
  rw[Gw]at k1 k2
  have mR:au (ay R x.o.d v) x.o.g=true:=by rw[eD (R':=R) (hd.sub v).1];exact hw
  have Gx:∀H2,ae (ay R x.o.d v) H2 b=ae R H2 b:=fun H2=>iu fun t ht=>(hd.sub v).2 t (by rw[hb];exact ht)
  have Df:ay R x.o.d v d=v:=by rw[u9,dq]
  rw[←u9]
  have hq:(gu b=.pure∨gu b=.read)→H'=H→Dr P n ops mu w0 df mk g0 ws H0 (pre++[x]) L g (ay R x.o.d v) H' a w:=by
   rintro hk rfl
   refine h.take hd he (.inr ⟨mR,d,b,u9,hb,.inl ⟨hk,by rw[Gx,Df];exact hv⟩⟩) (.inl rfl) fun k hm=>?_
   unfold dY at hm
   rw[hb]at hm
   split at hm
   ·rename_i h1;cases h1;simp[gu]at hk
   ·rename_i h1;cases h1;simp[gu]at hk
   ·cases hm
  cases hk:gu b with
  | we=>exact absurd hk k1
  | pure=>exact hq (.inl hk) (eO hk hv).1
  | read=>exact hq (.inr hk) (eP hk hv).1
  | make =>
   have Fq:H0.length≤H.length:=h.fr.1
   cases b<;>simp only[gu]at hk<;>(try (cases hk;done))
   case eK=>split at hk<;>cases hk
   case alloc z =>
    simp only[ae,Option.some.injEq,Prod.mk.injEq]at hv
    obtain⟨rfl,rfl⟩:=hv
    refine h.take hd he (.inr ⟨mR,d,_,u9,hb,.inr (.inl ⟨H.length,z,rfl,Df,bm _ _,h.sr.tj (Nat.le_refl _),Fq⟩)⟩) (.inr ⟨_,rfl,.inl ⟨_,rfl⟩⟩) fun k hm=>?_
    simp only[dY,u9,hb,dq,e8,Option.some.injEq]at hm
    omega
   case nz =>
    simp only[ae,Option.some.injEq,Prod.mk.injEq]at hv
    obtain⟨rfl,rfl⟩:=hv
    refine h.take hd he (.inr ⟨mR,d,_,u9,hb,.inr (.inr ⟨H.length,rfl,Df,bm _ _,h.sr.tj (Nat.le_refl _),Fq⟩)⟩) (.inr ⟨_,rfl,.inr ⟨_,rfl⟩⟩) fun k hm=>?_
    simp only[dY,u9,hb,dq,e8,Option.some.injEq]at hm
    omega
theorem Dr.bG (h:Dr P n ops mu w0 df mk g0 ws H0 pre L g R H a w)(hd:Hd P n ops mu pre x o)(hp:∀j∈aU o,L.getD j false=true):cw g w R a (tmpsOf o x.o.op x.o.g) :=
 h.look hd.ho (fun j hj=>⟨(hd.pred j hj).1,hp j hj⟩) (fQ hd.co) fun z hz _ d g7 ht=>hd.C9 z hz d g7 (by rw[hd.ts];exact ht)
theorem Dr.stays (h:Dr P n ops mu w0 df mk g0 ws H0 pre L g R H a w)(hd:Hd P n ops mu pre x o)(he:x.early=false)(hp:∀j∈aU o,L.getD j false=true)(hs:cE R H' x.o.gM) :
  ∀y∈pre,L.getD y.i false=false→∀d b,au R y.o.g=true→y.o.d=some d→y.o.op=.b b→gu b=.read→ae R H b=some (R d,H)→ae R H' b=some (R d,H'):=by
 intro y hy hu d b hw uY Gy hk _
 have nQ:y.early=true:=by cases e:y.early with|true=>rfl|false=>rw[h.iy y hy e]at hu;cases hu
 have Dg:((bM ops.toList []).getD x.i 0).testBit y.i=false:=by
  cases e:((bM ops.toList []).getD x.i 0).testBit y.i with
  | false=>rfl
  | true=>rw[h.bit hd.ho (fun j hj=>⟨(hd.pred j hj).1,hp j hj⟩) e]at hu;cases hu
 have hm:=iz pre hy nQ uY Gy hk Dg
 rw[←hd.st he]at hm
 exact hs _ hm hw
end
theorem lR {g:Ctx}{w:World}{n:Nat}:∀(ps:List Nat) (vs:List T) (us:List Value) (R:ai) (tmps:Array Value),ax g w vs us→vs.length=ps.length→tmps.size=n→(∀t,t<n→VR g w (R t) (tmps.getD t undef))→(∀p∈ps,p<n) →
  ((ps.zip us).foldl (fun tmps (t,a)=>tmps.setIfInBounds t a) tmps).size=n∧∀t,t<n→VR g w (fA R ps vs t) (((ps.zip us).foldl (fun tmps (t,a)=>tmps.setIfInBounds t a) tmps).getD t undef)
 | [],vs,us,R,tmps,hv,hl,hn,hr,_=>by
  cases vs with
  | nil=>exact⟨by simpa using hn,by simpa[fA]using hr⟩
  | cons _ _=>simp at hl
 | p :: ps,[],us,R,tmps,hv,hl,hn,hr,_=>by simp at hl
 | p :: ps,v :: vs,[],R,tmps,hv,hl,hn,hr,_=>by have:=hv.1;simp at this
 | p :: ps,v :: vs,u :: us,R,tmps,hv,hl,hn,hr,hp=>by
  simp only[List.zip_cons_cons,List.foldl_cons,fA]
  refine lR ps vs us (iZ R p v) (tmps.setIfInBounds p u) hv.tail (by simpa using hl) (by simpa using hn) (fun t ht=>?_) (fun q hq=>hp q (by simp[hq]))
  have xH:p<tmps.size:=by rw[hn];exact hp p (by simp)
  by_cases e:p=t
  ·subst e;simp only[iZ,if_true];rw[Array.getD_eq_getD_getElem?];simp[xH];exact hv.head
  ·simp only[iZ];rw[if_neg (Ne.symm e),Array.getD_eq_getD_getElem?,Array.getElem?_setIfInBounds_ne e,←Array.getD_eq_getD_getElem?];exact hr t ht
section
variable {P:Program} {w0 w ws:World} {g g0:Ctx} {H H0 H':aa} {R:ai} {a:Act} {n:Nat} {ops:Array Oper} {r:Option Nat} {mu:Bool} {i:Nat} {o:Oper} {st iV:List Rd}
theorem qL {e:Ex}(h:e≠.normal):(∃id,e=.exit id∧kW (some e)=some (.exit id))∨(e=.ret∧kW (some e)=some .ret):=by
 cases e with
 | normal=>exact absurd rfl h
 | exit id=>exact .inl ⟨id,rfl,rfl⟩
 | ret=>exact .inr ⟨rfl,rfl⟩
theorem lS {d:Option Nat}{x:X}{as:List X}{gd:Gd}{b m:Nat}{R0:ai}{ps:List Nat}{bf body:C}{M1 M:Out→aa→Prop}(ho:ops[i]?=some o)(hc:bW P n ops mu o st=some ⟨d,.a6 x as,gd,iV⟩)(hn:a.tmps.size=n)(hr:cw g w R a (tmpsOf o (.a6 x as) gd))(hw:au R gd=true)
  (hx:x.ev R=.gV b) (hb:H[b]?=some (.loop .ready none m R0 ps bf body)) (hlen:as.length=ps.length) (ck:bZ P g) (sr:SR w0 g H w)
  (nV:Dd P (.code bf (fA R0 ps (as.map (X.ev R)))) H M1) (pT:∀o H',M1 o H'→(∃R1,o=.ex .normal R1)∧H'[b]?=some (.loop .ready none m R0 ps bf body))
  (iX:∀R1 H1,M1 (.ex .normal R1) H1→Dd P (.code body R1) (H1.set b (.loop .busy none m R0 ps bf body)) M) (mI:∀o H',M o H'→H'[b]?=some (.loop .busy none m R0 ps bf body))
  {K:Act→World→Prop} {Q:Exit→Act→World→Prop}
  (hk:∀v w' g' H' t,((∃R' H2,M (.ex .normal R') H2∧t=.bool true∧H'=H2.set b (.loop .ready none m R0 ps bf body))∨(∃e R' H2,M (.ex e R') H2∧e≠.normal∧t=.bool false∧H'=H2.set b (.loop .done (some e) m R0 ps bf body))) →
   Le g w g' w'→SR w0 g' H' w'→VR g' w' t v→Fr g H g' H'→K (a.put d v) w'):wpOpIn (Fw r) 0 P ops Q i K a w:=by
 obtain⟨x8,x9,h1,h2,h3,h4,h5⟩:=aq hc
 cases h3
 refine cS ho hc hn hr hw ⟨fun _ _=>trivial,?_⟩
 have jy:=cR h1
 obtain⟨t,args,dp,rfl,yX,h6⟩:=e7 h1 (by rintro rfl;cases hx)
 have iD:=eR hr
 have hv:=b9 (ρ:=a.eval) args.toList as h6 (jF (iD.sub fun t ht=>by
  simp only[bP,List.mem_filterMap]at ht ⊢
  obtain⟨x,hx,e⟩:=ht
  exact⟨x,by rw[yX];simp only[Op.operands,Call.operands];simp at hx;simp[hx],e⟩))
 have hf:=iD t (by rw[yX];simp only[bP,List.mem_filterMap];exact⟨.tmp t,by simp[Op.operands,Call.operands],rfl⟩)
 simp only[X.ev]at hx
 rw[hx]at hf
 generalize o9:a.tmps.getD t undef=vf at hf
 cases hf with
 | @gV _ l o' q' hφ =>
  obtain⟨k1,rec,k2,k3,k4,k5,k6,k7,k8,k9,Gz⟩:=sr.dt b _ hb l o' q' hφ
  rw[Oper.semAt_eq _ _ _ jy]
  have cW:(args.toList.map a.eval).toArray.size=rec.params.size:=by
   have:=hv.1;simp at this
   have e2:rec.params.size=ps.length:=by rw[←k5];simp
   simp[e2,←hlen,this]
  have aJ:(execOp a.eval o).run P w=.ok (.round l rec.fn ((rec.params.zip (args.toList.map a.eval).toArray).foldl (fun tmps (t,a)=>tmps.setIfInBounds t a) rec.tmps) rec.assign rec.body) w:=by
   have hy:=run_yield (P:=P) (args:=(args.toList.map a.eval).toArray) k2 cW
   have e2:(args.toList.map a.eval).toArray=args.map a.eval:=by rw[←Array.toList_map]
   rw[e2]at hy ⊢
   have e:a.eval (.tmp t)=.func (.yield l) #[] #[]:=o9
   simp only[execOp,yX,resolve,e,Deferred.ofValue,invoke]
   simpa using hy
  rw[aJ,Oper.uponIn_round]
  refine⟨fun h=>by simp[Fw]at h,roundIn_of_wpIn trivial ?_⟩
  have pK:(rec.params.zip (args.toList.map a.eval).toArray).foldl (fun tmps (t,a)=>tmps.setIfInBounds t a) rec.tmps=(ps.zip (args.toList.map a.eval)).foldl (fun tmps (t,a)=>tmps.setIfInBounds t a) rec.tmps:=by
   rw[←Array.foldl_toList,Array.toList_zip,k5]
  rw[pK]
  have mS:=lR ps (as.map (X.ev R)) (args.toList.map a.eval) R0 rec.tmps hv (by simpa using hlen) k6 k7 k8
  obtain⟨GA,uq⟩:=(ck _ _ _).1 k9
  obtain⟨GB,ur⟩:=(ck _ _ _).1 Gz
  refine wpIn_mono (nV w0 g w { tmps:=(ps.zip (args.toList.map a.eval)).foldl (fun tmps (t,a)=>tmps.setIfInBounds t a) rec.tmps,defers:=[] } m GA false rec.assign (some l) uq (by simp) ck sr mS).1 fun e a1 w1 hp=>?_
  obtain⟨ex,R1,g1,H1,e1,hm,dw,xP,Fs,Dh,-,-⟩:=hp
  obtain⟨⟨IB,GC⟩,jr⟩:=pT _ _ hm
  cases GC
  cases e<;>simp only[ji,Option.some.injEq,reduceCtorEq]at e1
  have y6:=dw.φ _ _ hφ
  obtain⟨j1,Di,j2,j3,j4,j5,j6,j7,j8,j9,Ft⟩:=xP.dt b _ jr l o' q' y6
  refine⟨_,run_beginRound j2 j3,?_⟩
  obtain⟨vd,wi,wj⟩:=xP.ku (y':=.loop .busy none m R0 ps bf body) (x':=.loop { Di with state:=.busy }) jr y6 j1 j2 rfl rfl (fun w' le mR r o q hq=>by
   rw[y6]at hq;cases hq
   exact⟨j1,_,mR,rfl,j4,j5,j6,fun t ht=>(j7 t ht).mono le,j8,j9,Ft⟩)
  refine wpIn_mono (iX _ _ hm w0 g1 _ a1 m GB false rec.body (some l) ur (by simp) (ck.mono dw) wi ⟨Fs.1,fun t ht=>(Fs.2 t ht).mono vd⟩).1 fun e2 a2 w3 GD=>?_
  obtain⟨Ck,R2,g2,H2,e3,nW,mC,nf,IC,pt,-,-⟩:=GD
  have xr:=mI _ _ nW
  have nJ:=mC.φ _ _ y6
  obtain⟨i1,Dj,i2,i3,i4,i5,i6,i7,i8,i9,i10⟩:=nf.dt b _ xr l o' q' nJ
  have fin:∀(jump:Option Code) (st:pM) (pe:Option Ex) (v:Bool),kW pe=jump→st.real=(if jump.isNone then .ready else .done)→v=jump.isNone →
    ((v=true∧Ck=.normal∧st=.ready∧pe=none)∨(v=false∧Ck≠.normal∧st=.done∧pe=some Ck)) →
    ∃v' w',(Instr.endRound l jump).run P w3=.ok v' w'∧K (a.put o.dst v') w':=by
   intro jump st pe v q1 q2 q3 q4
   obtain⟨lT,nX,pw⟩:=nf.ku (y':=.loop st pe m R0 ps bf body) (x':=.loop { Dj with state:=if jump.isNone then .ready else .done,pending:=jump }) xr nJ i1 i2 rfl rfl (fun w' le mR r o q hq=>by
    rw[nJ]at hq;cases hq
    exact⟨i1,_,mR,q2.symm,q1.symm,i5,i6,fun t ht=>(i7 t ht).mono le,i8,i9,i10⟩)
   refine⟨_,_,run_endRound jump i2,?_⟩
   refine hk _ _ g2 (H2.set b (.loop st pe m R0 ps bf body)) (.bool v) ?_ (((dw.trans vd).trans mC).trans lT) nX (by rw[←q3];exact .bool v) (((Dh.trans wj).trans pt).trans pw)
   rcases q4 with⟨rfl,rfl,rfl,rfl⟩|⟨rfl,aF,rfl,rfl⟩
   ·exact .inl ⟨R2,H2,nW,rfl,rfl⟩
   ·exact .inr ⟨Ck,R2,H2,nW,aF,rfl,rfl⟩
  cases e2<;>simp only[ji,Option.some.injEq,reduceCtorEq]at e3<;>subst e3
  case normal=>exact fin none .ready none true rfl rfl rfl (.inl ⟨rfl,rfl,rfl,rfl⟩)
  case exit id=>exact fin (some (.exit id)) .done (some (.exit id)) false rfl rfl rfl (.inr ⟨rfl,by simp,rfl,rfl⟩)
  case ret=>exact fin (some .ret) .done (some .ret) false rfl rfl rfl (.inr ⟨rfl,by simp,rfl,rfl⟩)
end
theorem kC {P:Program}{w0:World}{F:Func}{n:Nat}{t0:T}{res:List Rs}:∀(ts:List T) (df:List Deferred) (bs:List Nat) (g:Ctx) (H:aa) (w:World) (R:ai) (a:Act) (Rr:Ending→World→Prop),
  lN g ts df→hC ts=some bs→bs.Nodup→(∀b∈bs,H[b]?=some .kS)→SR w0 g H w→dc g w n R a →
  (∀w' v,Le g w g w'→SR w0 g (kill H bs) w'→dc g w' n R a→Fr g H g (kill H bs)→(results F a.tmps).run P w'=.ok v w'→VR g w' t0 v→Rr (.returned v) w') →
  fC R (kill H bs) res=some t0→(∀(g:Ctx) (w:World) (H:aa),SR w0 g H w→dc g w n R a→fC R H res=some t0→∃v,(results F a.tmps).run P w=.ok v w∧VR g w t0 v) →
  LeavesInM (Fw none) 0 P F a.tmps Rr df .returning w:=by
 intro ts
 induction ts with
 | nil =>
  intro df bs g H w R a Rr hm hb _ _ sr hr hk gQ aJ
  cases hm
  simp only[hC,Option.some.injEq]at hb;subst hb
  obtain⟨v,h1,h2⟩:=aJ g w H sr hr gQ
  exact⟨v,h1,hk w v (.refl _ _) sr hr (.refl _ _) h1 h2⟩
 | cons t ts ih =>
  intro df bs g H w R a Rr hm hb jy ve sr hr hk gQ aJ
  cases hm with
  | @cons b r o q _ df hφ zR =>
   simp only[hC,pR]at hb
   split at hb
   ·rename_i b' GF e1 e2
    cases e1
    cases hb
    have Fu:=ve b (by simp)
    obtain⟨k1,k2⟩:=sr.dt b _ Fu r o q hφ
    obtain⟨le,dg,gI⟩:=sr.ku (y':=.dead) (x':=.deferred none) Fu hφ k1 k2 rfl rfl (fun _ _ _=>trivial)
    refine⟨by simp,.inl ⟨r,_,rfl,run_takeDeferred k2,?_⟩⟩
    simp only[List.nodup_cons]at jy
    refine ih df GF g (H.set b .dead) _ R a Rr zR e2 jy.2 (fun c hc=>?_) dg ⟨hr.1,fun t ht=>(hr.2 t ht).mono le⟩ (fun w' v vd wi GG wj=>hk w' v (le.trans vd) wi GG (gI.trans wj)) gQ aJ
    exact bE (ve c (by simp[hc])) (by rintro rfl;exact jy.1 hc)
   ·cases hb
section
variable {P:Program} {w0 w ws:World} {g g0:Ctx} {H H0 H':aa} {R:ai} {a:Act} {n:Nat} {ops:Array Oper} {r:Option Nat} {mu:Bool} {i:Nat} {o:Oper} {st iV:List Rd}
theorem lU {d:Option Nat}{nn bytes t b len:Nat}{yy:X}{cs:List T}{gd:Gd}{v:T}(ho:ops[i]?=some o)(hc:bW P n ops mu o st=some ⟨d,.b (.app nn bytes false (.r t) yy),gd,iV⟩)(hn:a.tmps.size=n)(hr:cw g w R a (tmpsOf o (.b (.app nn bytes false (.r t) yy)) gd))(hw:au R gd=true)
  (h:SR w0 g H w) (ht:R t=.aP b 0 len nn) (hb:H[b]?=some (.cells cs)) (hlen:len*nn=cs.length) (h0:0<len)
  (he:ae (iZ R t (.sl (.own H.length len) (dN cs 0 len nn))) (H.set b (.fz cs)++[.tok len]) (.app nn bytes false (.r t) yy)=some (v,H')) :
  ∃u w' g',(∀(K:Act→World→Prop) (Q:Exit→Act→World→Prop),K (a.put d u) w'→wpOpIn (Fw r) 0 P ops Q i K a w)∧Le g w g' w'∧SR w0 g' H' w'∧VR g' w' v u∧Fr g H g' H':=by
 have hm:=hr t (by simp[tmpsOf,lD,nP,bn])
 rw[ht]at hm
 obtain⟨g4,lT,nX,pw,qM⟩:=h.uV hb hm hlen h0
 have eY:cw g4 w (iZ R t (.sl (.own H.length len) (dN cs 0 len nn))) a (tmpsOf o (.b (.app nn bytes false (.r t) yy)) gd):=fun u hu=>by
  by_cases e:u=t
  ·subst e
   simp only[iZ,if_pos rfl]
   exact qM _ hm
  ·simp only[iZ,if_neg e]
   exact(hr u hu).mono lT
 have mR:au (iZ R t (.sl (.own H.length len) (dN cs 0 len nn))) gd=true:=by
  cases gd with
  | none=>rfl
  | some p =>
   obtain⟨u,c⟩:=p
   by_cases e:u=t
   ·subst e
    simp[au,ht]at hw
   ·simpa only[au,iZ,if_neg e]using hw
 obtain⟨u,w',g',k1,le,sr,hv,fr⟩:=kz (r:=r) ho hc hn eY mR nX he
 exact⟨u,w',g',k1,lT.trans le,sr,hv,pw.trans fr⟩
end
def lV (tmps:Array Value):ResultVar→Sem Value
 | .tmp t=>pure (tmps.getD t undef)
 | .cell a t=>do loadVar t (←asAddr (tmps.getD a undef))
theorem eF {P:Program}{w0:World}{g:Ctx}{w:World}{H:aa}{R:ai}{a:Act}{n:Nat}(sr:SR w0 g H w):∀(l:List ResultVar) (res:List Rs) (ts:List T),fO P l=some res→jb R H res=some ts→(∀t∈res,pa n t=true)→dc g w n R a →
  ∃vs:List Value,(l.mapM (lV a.tmps)).run P w=.ok vs w∧ax g w ts vs
 | [],res,ts,h,ht,_,_=>by simp[fO]at h;subst h;simp[jb]at ht;subst ht;exact⟨[],by simp,ax.nil⟩
 | .tmp t :: l,res,ts,h,ht,hn,hr=>by
  simp only[fO,Option.map_eq_some_iff]at h
  obtain⟨ya,h1,rfl⟩:=h
  simp only[jb,mG]at ht
  split at ht
  ·rename_i v vs hv fW
   cases ht;cases hv
   obtain⟨us,h2,h3⟩:=eF (P:=P) sr l ya vs h1 fW (fun t ht=>hn t (by simp[ht])) hr
   exact⟨a.tmps.getD t undef :: us,by rw[List.mapM_cons];simp only[Sem.run_bind,lV,Sem.run_pure,Result.andThen_ok,h2],ax.cons (hr.2 t (by simpa[pa]using hn (.t t) (by simp))) h3⟩
  ·cases ht
 | .cell c t :: l,res,ts,h,ht,hn,hr=>by
  simp only[fO]at h
  split at h
  ·rename_i d i hu hi
   simp only[Option.map_eq_some_iff]at h
   obtain⟨ya,h1,rfl⟩:=h
   simp only[jb]at ht
   split at ht
   ·rename_i v vs hv fW
    cases ht
    obtain⟨us,h2,h3⟩:=eF (P:=P) sr l ya vs h1 fW (fun t ht=>hn t (by simp[ht])) hr
    simp only[mG]at hv
    split at hv
    ·rename_i cs kN
     have hc:=hr.2 c (by simpa[pa]using hn (.cl c (if bC d=true then i.size else 1) (bC d)) (by simp))
     obtain⟨u,w',g',aJ,hw,bR,hg⟩:=tK (P:=P) hu hi rfl (fun e=>by rw[if_pos e]) sr hc kN hv
     subst hw;subst hg
     obtain⟨r,o,ID,hp,_⟩:=fg sr hc kN
     have zS:(lV a.tmps (.cell c t)).run P w'=.ok u w':=by
      rw[←aJ,hp]
      have e:lV a.tmps (.cell c t)=(asAddr (a.tmps.getD c undef) >>= fun x=>loadVar t x):=rfl
      rw[e,hp]
      simp only[asAddr,Instr.loadAt,Instr.sureAddr,Sem.run_bind,Sem.run_pure,Result.andThen_ok]
     exact⟨u :: us,by rw[List.mapM_cons];simp only[Sem.run_bind,zS,Result.andThen_ok,h2,Sem.run_pure],ax.cons bR h3⟩
    ·cases hv
   ·cases ht
  ·cases h
theorem iE {P:Program}{fn:Func}{w0:World}{g:Ctx}{w:World}{H:aa}{R:ai}{a:Act}{n:Nat}{res:List Rs}{t:T}(sr:SR w0 g H w)(h:fO P fn.results.toList=some res)(hn:∀t∈res,pa n t=true)(hr:dc g w n R a)(ht:fC R H res=some t):∃v,(results fn a.tmps).run P w=.ok v w∧VR g w t v:=by
 simp only[fC,Option.map_eq_some_iff]at ht
 obtain⟨ts,ht,rfl⟩:=ht
 obtain⟨vs,h1,h2⟩:=eF (P:=P) sr fn.results.toList res ts h ht hn hr
 have hl:ts.length=vs.length:=h2.1
 have e:results fn a.tmps=(fn.results.mapM (lV a.tmps) >>= fun vs=>pure (if h:vs.size=1 then vs[0]else .tuple vs)):=rfl
 refine⟨if h:vs.toArray.size=1 then vs.toArray[0]else .tuple vs.toArray,?_,?_⟩
 ·rw[e,Array.mapM_eq_mapM_toList]
  simp only[Sem.run_bind,Sem.run_map,map_eq_pure_bind,h1,Result.andThen_ok,Sem.run_pure]
 ·match ts,vs,hl,h2 with
  | [],[],_,_=>exact .bg rfl (by simp)
  | [t],[v],_,h2=>simpa[oK]using h2.head
  | t :: t' :: ts,v :: v' :: vs,_,h2 =>
   have:¬(v :: v' :: vs).toArray.size=1:=by simp
   rw[dif_neg this]
   simpa[oK]using h2.bg
theorem bX {P:Program}{n:Nat}{ops:Array Oper}{mu:Bool}{o:Oper}{st:List Rd}{y:O}(h:bW P n ops mu o st=some y):y.d≠some n:=by
 obtain⟨_,_,_,_,e,_,h5⟩:=aq h
 subst e
 exact fun e=>Nat.lt_irrefl n (h5 n e)
theorem mD {P:Program}{n:Nat}{ops:Array Oper}{mu:Nat→Bool}{w0 w ws w':World}{df:List Deferred}{mk:T}{g g0 g':Ctx}{H H0 H':aa}{pre Dk:List It}{L L':Array Bool}{R R':ai}{a a':Act}
  (h:Dr P n ops mu w0 df mk g0 ws H0 pre L g R H a w) (h':Dr P n ops mu w0 df mk g0 ws H0 Dk L' g' R' H' a' w') (ck:bZ P g):bZ P g':=fun n c k=>by rw[h'.le.ck,←h.le.ck];exact ck n c k
theorem iG {P:Program}{an:An}{f:FuncId}{fn:Fn}(kP:af P an f=some fn):∃F code res body,P.funcs[f]?=some F∧F.body=some code∧fO P F.results.toList=some res∧aw P F.ntmps an true code=some body ∧
  bq P f=true∧F.params.size+F.nfree≤F.ntmps∧(∀t∈res,pa F.ntmps t=true)∧fn=⟨F.ntmps,F.params.size+F.nfree,res,body⟩:=by
 unfold af at kP
 cases hF:P.funcs[f]? with
 | none=>simp[hF]at kP
 | some F =>
  simp only[hF]at kP
  split at kP
  ·rename_i code res hb gQ
   split at kP
   ·rename_i c ko
    split at kP
    ·rename_i hk
     simp only[Bool.and_eq_true,decide_eq_true_eq,List.all_eq_true]at hk
     obtain⟨⟨dv,cW⟩,aC⟩:=hk
     cases kP
     exact⟨F,code,res,c,rfl,hb,gQ,ko,dv,cW,aC,rfl⟩
    ·cases kP
   ·cases kP
  ·cases kP
theorem iH {F:Func}{g:Ctx}{w:World}{as:List T}{args:List Value}(hv:ax g w as args){k:Nat}(hn:as.length=k)(cW:k≤F.ntmps) :
  dc g w F.ntmps (dk as) { tmps:=args.toArray++Array.replicate (F.ntmps-args.toArray.size) undef,defers:=[] }:=by
 have Cl:args.length=as.length:=hv.1.symm
 refine⟨by simp[Cl,hn];omega,fun t ht=>?_⟩
 by_cases Cm:t<as.length
 ·simp only[dk]
  rw[List.getD_eq_getElem?_getD,List.getElem?_eq_getElem Cm,Option.getD_some]
  rw[Array.getD_eq_getD_getElem?,Array.getElem?_append_left (by simpa[Cl]using Cm)]
  simp only[List.getElem?_toArray,List.getElem?_eq_getElem (Cl▸Cm:t<args.length),Option.getD_some]
  exact hv.2 t _ _ (List.getElem?_eq_getElem Cm) (List.getElem?_eq_getElem _)
 ·simp only[dk]
  rw[List.getD_eq_getElem?_getD,List.getElem?_eq_none (by omega),Option.getD_none]
  rw[Array.getD_eq_getD_getElem?,Array.getElem?_append_right (by simp[Cl];omega),Array.getElem?_replicate]
  split<;>exact cZ
theorem eE.zT {w0 w:World}{n:Nat}{hr eY:Bool}{df:List Deferred}{mk:T}{g:Ctx}{H:aa}{Q:Out→aa→Prop}(hh:hr=false→eY=false){e:Exit}{a:Act}{u:World}(h:eE w0 n eY df mk g w H Q e a u):eE w0 n hr df mk g w H Q e a u :=
 h.trans (.refl _ _) (.refl _ _) id fun e=>⟨hh e,rfl,rfl⟩
theorem W.GH {P:Program}{E:Env}(hE:nT P E){j:J}{H:aa}{Q:Out→aa→Prop}(h:W E j H Q):Dd P j H Q:=by
 induction h with
 | @skip R H Q h =>
  intro w0 g w a n an top code r hc ht ck sr hr
  obtain rfl:=qH hc
  exact⟨wpIn_skip ⟨.normal,R,g,H,rfl,h,.refl _ _,sr,hr,.refl _ _,id,fun _=>⟨rfl,rfl⟩⟩,by rintro _⟨⟩⟩
 | @exit id R H Q h =>
  intro w0 g w a n an top code r hc ht ck sr hr
  obtain rfl:=qI hc
  exact⟨wpIn_exit ⟨.exit id,R,g,H,rfl,h,.refl _ _,sr,hr,.refl _ _,fun m=>m,fun _=>⟨rfl,rfl⟩⟩,by rintro _⟨⟩⟩
 | @ret R H Q h =>
  intro w0 g w a n an top code r hc ht ck sr hr
  obtain rfl:=u3 hc
  exact⟨wpIn_ret ⟨.ret,R,g,H,rfl,h,.refl _ _,sr,hr,.refl _ _,id,fun _=>⟨rfl,rfl⟩⟩,by rintro _⟨⟩⟩
 | @ze l R H Q _ ih =>
  intro w0 g w a n an top code r hc ht ck sr hr
  obtain⟨id,ops,mu,⟨rfl,h1⟩|⟨rfl,ord,dK,h1,h2⟩⟩:=u5 hc
  ·exact⟨wpIn_mono (wpIn_region (ih.1 w0 g w H g w a n ops mu _ r h1 ck sr hr (.refl _ _) (.refl _ _))) fun e a w hp=>hp.Fp,by rintro _⟨⟩⟩
  ·refine⟨wpIn_mono (wpIn_region_any (Q:=nb w0 n a.defers (R n) g w H Q) hE.mixed ?_) fun e a w hp=>hp.Fp,by rintro _⟨⟩⟩
   obtain⟨dg,le⟩:=sr.drew (w':={ w with drawn:=w.drawn+1 }) (Tr.drew w) rfl
   have hd:=Dr.init (ops:=ops) (mu:=mu) (P:=P) (mk:=R n) dg hr.1 rfl (fun t ht=>(hr.2 t ht).mono le) le (.refl g H)
   refine ih.2 w0 n ops mu a.defers (R n) g w H [] _ g a _ ord dK r ops.size ck h1 h2 hd ?_
   exact Nat.le_trans (List.count_le_length) (by simp)
 | @seq x y R H Q M _ h2 h3 nV iX =>
  intro w0 g w a n an top code r hc ht ck sr hr
  obtain⟨c,d,rfl,k1,k2⟩:=u4 hc
  refine⟨wpIn_seq (wpIn_mono (nV w0 g w a n an top c r k1 ht ck sr hr).1 fun e a' w' hp=>?_),by rintro _⟨⟩⟩
  have hb:(C.seq x y).eg=false→x.eg=false∧y.eg=false:=by simp[C.eg]
  obtain⟨ex,R',g',H',e1,hm,le,dg,eY,fr,kO,nY⟩:=hp
  cases e<;>simp only[ji,Option.some.injEq,reduceCtorEq]at e1<;>subst e1
  case normal =>
   exact wpIn_mono (iX R' H' hm w0 g' w' a' n an top d r k2 ht (ck.mono le) dg eY).1 fun e a2 w2 hp=>hp.trans le fr kO fun e=>⟨(hb e).2,nY (hb e).1⟩
  case exit id=>exact⟨_,R',g',H',rfl,h3 _ _ hm (by simp),le,dg,eY,fr,kO,fun e=>nY (hb e).1⟩
  case ret=>exact⟨_,R',g',H',rfl,h3 _ _ hm (by simp),le,dg,eY,fr,kO,fun e=>nY (hb e).1⟩
 | @cond x c d R H Q t hx _ ih =>
  intro w0 g w a n an top code r hc ht ck sr hr
  obtain⟨o,d',e',rfl,k1,k2,k3,k4⟩:=qJ hc
  refine⟨wpIn_cond (t:=t) ?_ ?_,by rintro _⟨⟩⟩
  ·have hv:VR g w (.bool t) (a.eval o):=by
    cases o with
    | tmp u=>simp only[aj,Option.some.injEq]at k1;subst k1;simp only[X.ev]at hx;rw[←hx];exact hr.2 u (k4 u rfl)
    | const v =>
     simp only[aj,Option.map_eq_some_iff]at k1
     obtain⟨u,h1,rfl⟩:=k1
     simp only[X.ev]at hx;subst hx
     exact eL h1
    | «global» _=>simp[aj]at k1
    | func f=>simp only[aj,Option.some.injEq]at k1;subst k1;simp[X.ev]at hx
   generalize a.eval o=v at hv
   cases hv;rfl
  ·cases t
   ·exact wpIn_mono (ih w0 g w a n an top e' r k3 ht ck sr hr).1 fun e a w hp=>hp.zT (by simp[C.eg])
   ·exact wpIn_mono (ih w0 g w a n an top d' r k2 ht ck sr hr).1 fun e a w hp=>hp.zT (by simp[C.eg];intro h _;exact h)
 | @block id x R H Q M _ h2 h3 ih =>
  intro w0 g w a n an top code r hc ht ck sr hr
  obtain⟨c,rfl,k1⟩:=pq hc
  refine⟨wpIn_block (wpIn_mono (ih w0 g w a n an top c r k1 ht ck sr hr).1 fun e a' w' hp=>?_),by rintro _⟨⟩⟩
  obtain⟨ex,R',g',H',e1,hm,le,dg,eY,fr,nY⟩:=hp
  cases e<;>simp only[ji,Option.some.injEq,reduceCtorEq]at e1<;>subst e1
  case normal=>exact⟨_,R',g',H',rfl,h3 _ _ hm (by simp),le,dg,eY,fr,nY⟩
  case exit Gv =>
   simp only[Exit.inBlock]
   split
   ·rename_i e;subst e;exact⟨_,R',g',H',rfl,h2 _ _ hm,le,dg,eY,fr,nY⟩
   ·rename_i e;exact⟨_,R',g',H',rfl,h3 _ _ hm (fun R2 e2=>by cases e2;exact e rfl),le,dg,eY,fr,nY⟩
  case ret=>exact⟨_,R',g',H',rfl,h3 _ _ hm (by simp),le,dg,eY,fr,nY⟩
 | @loop x R H Q M _ h2 h3 nV iX =>
  intro w0 g w a n an top code r hc ht ck sr hr
  obtain⟨c,rfl,k1⟩:=qK hc
  have key:iA (Fw r) 0 P c (eE w0 n x.loop.eg a.defers (R n) g w H Q) a w:=by
   refine lO (wpIn_mono (nV w0 g w a n an top c r k1 ht ck sr hr).1 fun e a' w' hp=>?_)
   obtain⟨ex,R',g',H',e1,hm,le,dg,eY,fr,kO,nY⟩:=hp
   cases e<;>simp only[ji,Option.some.injEq,reduceCtorEq]at e1<;>subst e1
   case normal =>
    have:=(iX R' H' hm w0 g' w' a' n an top (.loop c) r hc ht (ck.mono le) dg eY).2 c rfl
    intro b k cs h1 h2 h4
    obtain⟨e,a2,w2,hq,fL⟩:=this b k cs h1 h2 h4
    exact⟨e,a2,w2,hq.trans le fr kO fun e=>⟨e,nY e⟩,fL⟩
   case exit id=>exact⟨_,R',g',H',rfl,h3 _ _ hm (by simp),le,dg,eY,fr,kO,nY⟩
   case ret=>exact⟨_,R',g',H',rfl,h3 _ _ hm (by simp),le,dg,eY,fr,kO,nY⟩
  exact⟨pn key,fun body e=>by cases e;exact key⟩
 | @bo m x ps bf body R H Q f cs M hx _ h2 ih =>
  intro w0 g w a n an top code r hc ht ck sr hr
  obtain⟨Dl,qs,c,d,rfl,k1,k2,k3,k4,k5,rfl,k7,rfl⟩:=pr hc
  obtain rfl:=ht k4
  refine⟨wpIn_rangeFunc fun fn _=>?_,by rintro _⟨⟩⟩
  have hv:VR g w (.fn f cs) (a.eval Dl):=by
   cases Dl with
   | tmp u=>simp only[aj,Option.some.injEq]at k1;subst k1;simp only[X.ev]at hx;rw[←hx];exact hr.2 u (k5 u (by simp[bn]))
   | const v =>
    simp only[aj,Option.map_eq_some_iff]at k1
    obtain⟨u,h1,rfl⟩:=k1
    simp only[X.ev]at hx;subst hx
    exact eL h1
   | «global» _=>simp[aj]at k1
   | func f'=>simp only[aj,Option.some.injEq]at k1;subst k1;simp only[X.ev]at hx;cases hx;exact .fn rfl (by simp)
  generalize GI:a.eval Dl=vf at hv
  cases hv with
  | @fn _ _ vs hl kN =>
   obtain⟨g1,dw,xP,Dh,y6⟩:=sr.qx (x:=.deferred (some [])) (y:=.kS) rfl (fun g' w' _ q1 q2 q3 r o q hq=>by rw[q2]at hq;cases hq;exact⟨q1,q3⟩)
   have cW:(w.alloc (.deferred (some []))).heap.size=w.heap.size+1:=by simp
   obtain⟨g2,vd,wi,wj,nJ⟩:=xP.qx (x:=.loop { state:=.ready,pending:=none,fn,tmps:=a.tmps,params:=qs,assign:=c,body:=d,defers:=w.heap.size }) (y:=.loop .ready none m R qs.toList bf body) rfl
    (fun g' w' le q1 q2 q3 r o q hq=>by
     rw[q2]at hq;cases hq
     refine⟨q1,_,q3,rfl,rfl,rfl,hr.1,fun t ht=>((hr.2 t ht).mono dw).mono le,k7,?_,?_⟩
     ·rw[le.ck,dw.ck];exact(ck _ _ _).2 ⟨an,k2⟩
     ·rw[le.ck,dw.ck];exact(ck _ _ _).2 ⟨an,k3⟩)
   rw[cW]at nJ
   have hlen:(H++[B.kS]).length=H.length+1:=by simp
   rw[hlen]at nJ
   have Dm:H++[B.kS]++[B.loop .ready none m R qs.toList bf body]=H++[.kS,.loop .ready none m R qs.toList bf body]:=by simp
   rw[Dm]at wi wj
   have yc:=dw.trans vd
   have nZ:ax g2 ((w.alloc (.deferred (some []))).alloc (.loop { state:=.ready,pending:=none,fn,tmps:=a.tmps,params:=qs,assign:=c,body:=d,defers:=w.heap.size })) (.gV (H.length+1) :: cs) (.func (.yield (w.heap.size+1)) #[] #[] :: vs.toList) :=
    ax.cons (.gV nJ) ⟨by simp[hl],fun i t v ha hb=>(kN i t v ha (by simpa using hb)).mono yc⟩
   obtain⟨dv,qN⟩:=ih w0 g2 _ _ (ck.mono yc) wi nZ
   refine⟨w.heap.size+1,[{ target:=.collected w.heap.size,args:=#[] }],((w.alloc (.deferred (some []))).alloc (.loop { state:=.ready,pending:=none,fn,tmps:=a.tmps,params:=qs,assign:=c,body:=d,defers:=w.heap.size })),{ target:=.fn (.func f) vs,args:=#[.func (.yield (w.heap.size+1)) #[] #[]] },((w.alloc (.deferred (some []))).alloc (.loop { state:=.ready,pending:=none,fn,tmps:=a.tmps,params:=qs,assign:=c,body:=d,defers:=w.heap.size })),f,#[.func (.yield (w.heap.size+1)) #[] #[]]++vs,((w.alloc (.deferred (some []))).alloc (.loop { state:=.ready,pending:=none,fn,tmps:=a.tmps,params:=qs,assign:=c,body:=d,defers:=w.heap.size })),run_enterLoop_outer _ _ _ _ _,?_,fun _ _=>trivial,?_,fun h=>by simp[Fw]at h,?_⟩
   ·simp only[resolve,GI,Deferred.ofValue]
    simp[Act.eval]
   ·exact dX dv
   ·have e3:(.func (.yield (w.heap.size+1)) #[] #[] :: vs.toList:List Value).toArray=#[.func (.yield (w.heap.size+1)) #[] #[]]++vs:=by simp
    rw[e3]at qN
    refine qN.mono fun e w3 ⟨v,t,g3,H3,he,hM,mC,nf,_,pt⟩=>?_
    subst he
    obtain⟨st,bz,g5,GJ,Fv,hQ⟩:=h2 _ _ hM
    have Fx:=mC.φ _ _ nJ
    obtain⟨j1,rec,j2,j3,j4,j5,j6,j7,j8,j9,Ft⟩:=nf.dt _ _ Fv _ _ _ Fx
    obtain⟨lT,nX,pw⟩:=nf.ku (y':=.dead) (x':=.loop { rec with state:=.exhausted }) Fv Fx j1 j2 rfl rfl (fun _ _ _=>trivial)
    refine⟨_,_,run_endLoop j2 (by rw[j3];cases st<;>simp[pM.real]at g5 ⊢),?_⟩
    generalize w3.putObj (w.heap.size+1) (.loop { rec with state:=.exhausted })=W4 at lT nX ⊢
    rw[j4]
    have Dn:=(yc.trans mC).trans lT
    have GK:Fr g H g3 (H3.set (H.length+1) .dead):=by
     have:=(Dh.trans wj).trans (pt.trans pw)
     exact this
    have post:∀e,ji e=some (kc bz)→eE w0 m (C.bo m x qs.toList bf body).eg a.defers (R m) g w H Q e { a with defers:=[{ target:=.collected w.heap.size,args:=#[] }]++a.defers } W4:=by
     intro e he
     refine⟨_,_,g3,_,he,hQ,Dn,nX,⟨hr.1,fun t ht=>?_⟩,GK,fun hm=>?_,fun h=>by simp[C.eg]at h⟩
     ·simp only[iZ];rw[if_neg (Nat.ne_of_lt ht)];exact(hr.2 t ht).mono Dn
     ·obtain⟨ts,e1,e2⟩:=hm
      refine⟨.ptr H.length 0 :: ts,by simp[iZ,e1,fB],.cons (((vd.trans mC).trans lT).φ _ _ y6) (e2.mono Dn)⟩
    cases hp:bz with
    | none=>simp only[kW];exact post .normal (by rw[hp];rfl)
    | some e =>
     rcases qL (e:=e) (by rintro rfl;exact GJ hp)with⟨id,rfl,e5⟩|⟨rfl,e5⟩
     ·simp only[e5];exact wpIn_exit (post (.exit id) (by rw[hp];rfl))
     ·simp only[e5];exact wpIn_ret (post .ret (by rw[hp];rfl))
 | @nil R H Q h =>
  refine⟨fun w0 g0 ws H0 g w a n ops mu is r hc ck sr hr le fr=>?_,fun w0 n ops mu df mk g0 ws H0 pre L g a w ord dK r fuel ck h1 h2 hd hl=>?_⟩
  ·obtain rfl:=lQ hc
   exact⟨.normal,R,g,H,rfl,h,le,sr,hr,fr,rfl,rfl⟩
  ·have er:=aW ord pre dK h1
   cases dK with
   | cons _ _=>simp at h2
   | nil=>exact po (by simpa using er) h fuel L g a w hl hd
 | @no o l R H Q hg _ ih =>
  refine⟨fun w0 g0 ws H0 g w a n ops mu is r hc ck sr hr le fr=>?_,fun w0 n ops mu df mk g0 ws H0 pre L g a w ord dK r fuel ck h1 h2 hd hl=>?_⟩
  ·obtain⟨i,iW,oper,rfl,ho,bL,bQ⟩:=bd hc
   rw[wpOpsIn_cons]
   refine nU ho bL hr.1 (hr.rg (fQ bL)) hg ?_
   have:=ih.1 w0 g0 ws H0 g w (a.put o.d undef) n ops mu iW r bQ ck sr (hr.put (by obtain⟨_,_,_,_,e,_,h5⟩:=aq bL;rw[e];exact h5) (.refl _ _) cZ) le fr
   rwa[da,aO (bX bL)]at this
  ·obtain⟨x,l',bS,oper,rfl,rfl,h3,hh,h4⟩:=cy h1 h2
   cases he:x.early with
   | true=>exact ih.2 w0 n ops mu df mk g0 ws H0 _ L g a w bS l' r fuel ck h4 h3 (hd.u6 hh he hg) hl
   | false =>
    refine bF (Tl:=fun R' H'=>R'=ay R x.o.d av∧H'=H) hh he (aW ord pre _ h1) (bc bS _ l' h4) ?_ ?_ fuel L g a w hl hd
    ·rintro R' H'⟨rfl,rfl⟩ fuel L' g' a' w' hL eU
     exact ih.2 w0 n ops mu df mk g0 ws H0 _ L' g' a' w' bS l' r fuel (mD hd eU ck) h4 h3 eU hL
    ·intro L g a w hd hp K hK
     exact nU hh.ho hh.co hd.kx (hd.bG hh hp) hg (hK _ _ g _ w ⟨rfl,rfl⟩ (hd.both hh he hp (.refl _ _) hd.sr cZ (.refl _ _) fun _ _ _ _ _ _ _ _ _ e=>e))
 | @op d b gd s l R H Q v H' hg hv hs _ ih =>
  refine⟨fun w0 g0 ws H0 g w a n ops mu is r hc ck sr hr le fr=>?_,fun w0 n ops mu df mk g0 ws H0 pre L g a w ord dK r fuel ck h1 h2 hd hl=>?_⟩
  ·obtain⟨i,iW,oper,rfl,ho,bL,bQ⟩:=bd hc
   rw[wpOpsIn_cons]
   obtain⟨u,w',g',bI,en,dg,bR,gI⟩:=kz (r:=r) ho bL hr.1 (hr.rg (fQ bL)) hg sr hv
   refine bI _ _ ?_
   have:=ih.1 w0 g0 ws H0 g' w' (a.put d u) n ops mu iW r bQ (ck.mono en) dg (hr.put (by obtain⟨_,_,_,_,e,_,h5⟩:=aq bL;cases e;exact h5) en bR) (le.trans en) (fr.trans gI)
   rwa[da,aO (bX bL)]at this
  ·obtain⟨x,l',bS,oper,rfl,eS,h3,hh,h4⟩:=cy h1 h2
   have n3:x.o.d=d:=by rw[eS]
   cases he:x.early with
   | true =>
    have:=hd.u7 hh he (b:=b) (by rw[eS]) (by rw[eS];exact hg) hv
    rw[n3]at this
    exact ih.2 w0 n ops mu df mk g0 ws H0 _ L g a w bS l' r fuel ck h4 h3 this hl
   | false =>
    refine bF (Tl:=fun R' H2=>R'=ay R d v∧H2=H') hh he (aW ord pre _ h1) (bc bS _ l' h4) ?_ ?_ fuel L g a w hl hd
    ·rintro R' H'⟨rfl,rfl⟩ fuel L' g' a' w' hL eU
     exact ih.2 w0 n ops mu df mk g0 ws H0 _ L' g' a' w' bS l' r fuel (mD hd eU ck) h4 h3 eU hL
    ·intro L2 g2 a2 w2 cB hp K hK
     have vg:bZ P g2:=mD hd cB ck
     have bL:=hh.co
     have iD:=cB.bG hh hp
     have g5:=cB.stays hh he hp (H':=H') (by rw[eS];exact hs)
     rw[eS]at bL iD
     obtain⟨u,w',g',bI,en,dg,bR,gI⟩:=kz (r:=r) hh.ho bL cB.kx iD hg cB.sr hv
     refine bI _ _ (hK _ _ g' _ w' ⟨rfl,rfl⟩ ?_)
     have:=cB.both hh he hp en dg bR gI g5
     rwa[n3]at this
 | @B4 d nn bytes yy gd s l R H Q b len cs v H' t hg ht hb hlen h0 hv hs _ ih =>
  refine⟨fun w0 g0 ws H0 g w a n ops mu is r hc ck sr hr le fr=>?_,fun w0 n ops mu df mk g0 ws H0 pre L g a w ord dK r fuel ck h1 h2 hd hl=>?_⟩
  ·obtain⟨i,iW,oper,rfl,ho,bL,bQ⟩:=bd hc
   rw[wpOpsIn_cons]
   obtain⟨u,w',g',bI,en,dg,bR,gI⟩:=lU (r:=r) ho bL hr.1 (hr.rg (fQ bL)) hg sr ht hb hlen h0 hv
   refine bI _ _ ?_
   have:=ih.1 w0 g0 ws H0 g' w' (a.put d u) n ops mu iW r bQ (ck.mono en) dg (hr.put (by obtain⟨_,_,_,_,e,_,h5⟩:=aq bL;cases e;exact h5) en bR) (le.trans en) (fr.trans gI)
   rwa[da,aO (bX bL)]at this
  ·obtain⟨x,l',bS,oper,rfl,eS,h3,hh,h4⟩:=cy h1 h2
   have n3:x.o.d=d:=by rw[eS]
   cases he:x.early with
   | true =>
    have:=(hh.kl he).1
    rw[eS]at this
    exact absurd (by cases d<;>rfl) this
   | false =>
    refine bF (Tl:=fun R' H2=>R'=ay R d v∧H2=H') hh he (aW ord pre _ h1) (bc bS _ l' h4) ?_ ?_ fuel L g a w hl hd
    ·rintro R' H'⟨rfl,rfl⟩ fuel L' g' a' w' hL eU
     exact ih.2 w0 n ops mu df mk g0 ws H0 _ L' g' a' w' bS l' r fuel (mD hd eU ck) h4 h3 eU hL
    ·intro L2 g2 a2 w2 cB hp K hK
     have vg:bZ P g2:=mD hd cB ck
     have bL:=hh.co
     have iD:=cB.bG hh hp
     have g5:=cB.stays hh he hp (H':=H') (by rw[eS];exact hs)
     rw[eS]at bL iD
     obtain⟨u,w',g',bI,en,dg,bR,gI⟩:=lU (r:=r) hh.ho bL cB.kx iD hg cB.sr ht hb hlen h0 hv
     refine bI _ _ (hK _ _ g' _ w' ⟨rfl,rfl⟩ ?_)
     have:=cB.both hh he hp en dg bR gI g5
     rwa[n3]at this
 | @call d f as gd s l R H Q M hg _ hs h2 nV iX =>
  refine⟨fun w0 g0 ws H0 g w a n ops mu is r hc ck sr hr le fr=>?_,fun w0 n ops mu df mk g0 ws H0 pre L g a w ord dK r fuel ck h1 h2 hd hl=>?_⟩
  ·obtain⟨i,iW,oper,rfl,ho,bL,bQ⟩:=bd hc
   rw[wpOpsIn_cons]
   refine jJ (r:=r) ho bL hr.1 (hr.rg (fQ bL)) hg (fun args hv=>nV w0 g w args ck sr hv) fun u w' g' H' t hM en dg bR gI=>?_
   have:=(iX t H' hM).1 w0 g0 ws H0 g' w' (a.put d u) n ops mu iW r bQ (ck.mono en) dg (hr.put (by obtain⟨_,_,_,_,e,_,h5⟩:=aq bL;cases e;exact h5) en bR) (le.trans en) (fr.trans gI)
   rwa[da,aO (bX bL)]at this
  ·obtain⟨x,l',bS,oper,rfl,eS,h3,hh,h4⟩:=cy h1 h2
   have n3:x.o.d=d:=by rw[eS]
   cases he:x.early with
   | true=>exact absurd (by rw[eS];rfl) (hh.kl he).1
   | false =>
    refine bF (Tl:=fun R' H2=>∃v,M (.val v) H2∧R'=ay R d v) hh he (aW ord pre _ h1) (bc bS _ l' h4) ?_ ?_ fuel L g a w hl hd
    ·rintro R' H'⟨v,hM,rfl⟩ fuel L' g' a' w' hL eU
     exact(iX v H' hM).2 w0 n ops mu df mk g0 ws H0 _ L' g' a' w' bS l' r fuel (mD hd eU ck) h4 h3 eU hL
    ·intro L2 g2 a2 w2 cB hp K hK
     have vg:bZ P g2:=mD hd cB ck
     have bL:=hh.co
     have iD:=cB.bG hh hp
     rw[eS]at bL iD
     refine jJ (r:=r) hh.ho bL cB.kx iD hg (fun args hv=>nV w0 g2 w2 args vg cB.sr hv) fun u w' g' H' t hM en dg bR gI=>hK _ H' g' _ w' ⟨t,hM,rfl⟩ ?_
     have g5:=cB.stays hh he hp (H':=H') (by rw[eS];exact hs t H' hM)
     have:=cB.both hh he hp en dg bR gI g5
     rwa[n3]at this
 | @a6 d xx f cs as gd s l R H Q M hg hf _ hs h2 nV iX =>
  refine⟨fun w0 g0 ws H0 g w a n ops mu is r hc ck sr hr le fr=>?_,fun w0 n ops mu df mk g0 ws H0 pre L g a w ord dK r fuel ck h1 h2 hd hl=>?_⟩
  ·obtain⟨i,iW,oper,rfl,ho,bL,bQ⟩:=bd hc
   rw[wpOpsIn_cons]
   refine iB (r:=r) ho bL hr.1 (hr.rg (fQ bL)) hg hf (fun args hv=>nV w0 g w args ck sr hv) fun u w' g' H' t hM en dg bR gI=>?_
   have:=(iX t H' hM).1 w0 g0 ws H0 g' w' (a.put d u) n ops mu iW r bQ (ck.mono en) dg (hr.put (by obtain⟨_,_,_,_,e,_,h5⟩:=aq bL;cases e;exact h5) en bR) (le.trans en) (fr.trans gI)
   rwa[da,aO (bX bL)]at this
  ·obtain⟨x,l',bS,oper,rfl,eS,h3,hh,h4⟩:=cy h1 h2
   have n3:x.o.d=d:=by rw[eS]
   cases he:x.early with
   | true=>exact absurd (by rw[eS];rfl) (hh.kl he).1
   | false =>
    refine bF (Tl:=fun R' H2=>∃v,M (.val v) H2∧R'=ay R d v) hh he (aW ord pre _ h1) (bc bS _ l' h4) ?_ ?_ fuel L g a w hl hd
    ·rintro R' H'⟨v,hM,rfl⟩ fuel L' g' a' w' hL eU
     exact(iX v H' hM).2 w0 n ops mu df mk g0 ws H0 _ L' g' a' w' bS l' r fuel (mD hd eU ck) h4 h3 eU hL
    ·intro L2 g2 a2 w2 cB hp K hK
     have vg:bZ P g2:=mD hd cB ck
     have bL:=hh.co
     have iD:=cB.bG hh hp
     rw[eS]at bL iD
     refine iB (r:=r) hh.ho bL cB.kx iD hg hf (fun args hv=>nV w0 g2 w2 args vg cB.sr hv) fun u w' g' H' t hM en dg bR gI=>hK _ H' g' _ w' ⟨t,hM,rfl⟩ ?_
     have g5:=cB.stays hh he hp (H':=H') (by rw[eS];exact hs t H' hM)
     have:=cB.both hh he hp en dg bR gI g5
     rwa[n3]at this
 | @gV d xx b as gd s l R H Q m R0 ps bf body M1 M hg hf hb hn _ pT _ mI B1 _ B2 _ nV iX Cn Co =>
  refine⟨fun w0 g0 ws H0 g w a n ops mu is r hc ck sr hr le fr=>?_,fun w0 n ops mu df mk g0 ws H0 pre L g a w ord dK r fuel ck h1 h2 hd hl=>?_⟩
  ·obtain⟨i,iW,oper,rfl,ho,bL,bQ⟩:=bd hc
   rw[wpOpsIn_cons]
   refine lS (r:=r) ho bL hr.1 (hr.rg (fQ bL)) hg hf hb hn ck sr nV pT iX mI fun u w' g' H' t mQ en dg bR gI=>?_
   have zU:=hr.put (d:=d) (by obtain⟨_,_,_,_,e,_,h5⟩:=aq bL;cases e;exact h5) en bR
   rcases mQ with⟨R',H2,hM,rfl,rfl⟩|⟨e,R',H2,hM,aF,rfl,rfl⟩
   ·have:=(Cn R' H2 hM).1 w0 g0 ws H0 g' w' (a.put d u) n ops mu iW r bQ (ck.mono en) dg zU (le.trans en) (fr.trans gI)
    rwa[da,aO (bX bL)]at this
   ·have:=(Co e R' H2 hM aF).1 w0 g0 ws H0 g' w' (a.put d u) n ops mu iW r bQ (ck.mono en) dg zU (le.trans en) (fr.trans gI)
    rwa[da,aO (bX bL)]at this
  ·obtain⟨x,l',bS,oper,rfl,eS,h3,hh,h4⟩:=cy h1 h2
   have n3:x.o.d=d:=by rw[eS]
   cases he:x.early with
   | true=>exact absurd (by rw[eS];rfl) (hh.kl he).1
   | false =>
    refine bF (Tl:=fun R' H'=>(∃R2 H2,M (.ex .normal R2) H2∧R'=ay R d (.bool true)∧H'=H2.set b (.loop .ready none m R0 ps bf body))∨(∃e R2 H2,M (.ex e R2) H2∧e≠.normal∧R'=ay R d (.bool false)∧H'=H2.set b (.loop .done (some e) m R0 ps bf body)))
     hh he (aW ord pre _ h1) (bc bS _ l' h4) ?_ ?_ fuel L g a w hl hd
    ·rintro R' H' (⟨R2,H2,hM,rfl,rfl⟩|⟨e,R2,H2,hM,aF,rfl,rfl⟩) fuel L' g' a' w' hL eU
     ·exact(Cn R2 H2 hM).2 w0 n ops mu df mk g0 ws H0 _ L' g' a' w' bS l' r fuel (mD hd eU ck) h4 h3 eU hL
     ·exact(Co e R2 H2 hM aF).2 w0 n ops mu df mk g0 ws H0 _ L' g' a' w' bS l' r fuel (mD hd eU ck) h4 h3 eU hL
    ·intro L2 g2 a2 w2 cB hp K hK
     have vg:bZ P g2:=mD hd cB ck
     have bL:=hh.co
     have iD:=cB.bG hh hp
     rw[eS]at bL iD
     refine lS (r:=r) hh.ho bL cB.kx iD hg hf hb hn vg cB.sr nV pT iX mI fun u w' g' H' t mQ en dg bR gI=>?_
     have xr:∀(hs:cE R H' s),Dr P n ops mu w0 df mk g0 ws H0 (pre++[x]) (L2.setIfInBounds x.i true) g' (ay R d t) H' (a2.put d u) w':=fun hs=>by
      have g5:=cB.stays hh he hp (H':=H') (by rw[eS];exact hs)
      have:=cB.both hh he hp en dg bR gI g5
      rwa[n3]at this
     rcases mQ with⟨R',H2,hM,rfl,rfl⟩|⟨e,R',H2,hM,aF,rfl,rfl⟩
     ·exact hK _ _ g' _ w' (.inl ⟨R',H2,hM,rfl,rfl⟩) (xr (B1 R' H2 hM))
     ·exact hK _ _ g' _ w' (.inr ⟨e,R',H2,hM,aF,rfl,rfl⟩) (xr (B2 e R' H2 hM aF))
 | @pS d neg c xx yy s l R H Q hs _ hx hy hc ih =>
  subst hc
  subst hs
  refine⟨fun w0 g0 ws H0 g w a n ops mu is r hc ck sr hr le fr=>?_,fun w0 n ops mu df mk g0 ws H0 pre L g a w ord dK r fuel ck h1 h2 hd hl=>?_⟩
  ·obtain⟨i,iW,oper,rfl,ho,bL,bQ⟩:=bd hc
   rw[wpOpsIn_cons]
   obtain⟨b,bI⟩:=jI (r:=r) ho bL hr.1 (hr.rg (fQ bL)) rfl hx hy
   refine bI _ _ ?_
   have:=(ih b).1 w0 g0 ws H0 g w (a.put d (.bool b)) n ops mu iW r bQ ck sr (hr.put (by obtain⟨_,_,_,_,e,_,h5⟩:=aq bL;cases e;exact h5) (.refl _ _) (.bool b)) le fr
   rwa[da,aO (bX bL)]at this
  ·obtain⟨x,l',bS,oper,rfl,eS,h3,hh,h4⟩:=cy h1 h2
   have n3:x.o.d=d:=by rw[eS]
   cases he:x.early with
   | true =>
    have:=(hh.kl he).1
    rw[eS]at this
    exact absurd (by cases d<;>rfl) this
   | false =>
    refine bF (Tl:=fun R' H2=>∃b:Bool,R'=ay R d (.bool b)∧H2=H) hh he (aW ord pre _ h1) (bc bS _ l' h4) ?_ ?_ fuel L g a w hl hd
    ·rintro R' H'⟨b,rfl,rfl⟩ fuel L' g' a' w' hL eU
     exact(ih b).2 w0 n ops mu df mk g0 ws H0 _ L' g' a' w' bS l' r fuel (mD hd eU ck) h4 h3 eU hL
    ·intro L2 g2 a2 w2 cB hp K hK
     have vg:bZ P g2:=mD hd cB ck
     have bL:=hh.co
     have iD:=cB.bG hh hp
     rw[eS]at bL iD
     obtain⟨b,bI⟩:=jI (r:=r) hh.ho bL cB.kx iD rfl hx hy
     refine bI _ _ (hK _ H g2 _ w2 ⟨b,rfl,rfl⟩ ?_)
     have:=cB.both hh he hp (.refl _ _) cB.sr (.bool b) (.refl _ _) fun _ _ _ _ _ _ _ _ _ e=>e
     rwa[n3]at this
 | @gL d xx gd s l R H Q b bi es ix cur hg hx hb hs _ ih =>
  refine⟨fun w0 g0 ws H0 g w a n ops mu is r hc ck sr hr le fr=>?_,fun w0 n ops mu df mk g0 ws H0 pre L g a w ord dK r fuel ck h1 h2 hd hl=>?_⟩
  ·obtain⟨i,iW,oper,rfl,ho,bL,bQ⟩:=bd hc
   rw[wpOpsIn_cons]
   obtain⟨t,H',u,w',g',hM,bI,en,dg,bR,gI⟩:=lP (r:=r) ho bL hr.1 (hr.rg (fQ bL)) hg sr hx hb
   refine bI _ _ ?_
   have:=(ih t H' hM).1 w0 g0 ws H0 g' w' (a.put d u) n ops mu iW r bQ (ck.mono en) dg (hr.put (by obtain⟨_,_,_,_,e,_,h5⟩:=aq bL;cases e;exact h5) en bR) (le.trans en) (fr.trans gI)
   rwa[da,aO (bX bL)]at this
  ·obtain⟨x,l',bS,oper,rfl,eS,h3,hh,h4⟩:=cy h1 h2
   have n3:x.o.d=d:=by rw[eS]
   cases he:x.early with
   | true =>
    have:=(hh.kl he).1
    rw[eS]at this
    exact absurd (by cases d<;>rfl) this
   | false =>
    refine bF (Tl:=fun R' H2=>∃v,fD H b bi es ix v H2∧R'=ay R d v) hh he (aW ord pre _ h1) (bc bS _ l' h4) ?_ ?_ fuel L g a w hl hd
    ·rintro R' H'⟨v,hM,rfl⟩ fuel L' g' a' w' hL eU
     exact(ih v H' hM).2 w0 n ops mu df mk g0 ws H0 _ L' g' a' w' bS l' r fuel (mD hd eU ck) h4 h3 eU hL
    ·intro L2 g2 a2 w2 cB hp K hK
     have vg:bZ P g2:=mD hd cB ck
     have bL:=hh.co
     have iD:=cB.bG hh hp
     rw[eS]at bL iD
     obtain⟨t,H',u,w',g',hM,bI,en,dg,bR,gI⟩:=lP (r:=r) hh.ho bL cB.kx iD hg cB.sr hx hb
     refine bI _ _ (hK _ H' g' _ w' ⟨t,hM,rfl⟩ ?_)
     have g5:=cB.stays hh he hp (H':=H') (by rw[eS];exact hs t H' hM)
     have:=cB.both hh he hp en dg bR gI g5
     rwa[n3]at this
 | @shr f as H Q M _ h2 ih =>
  intro w0 g w args ck sr hv
  obtain⟨dv,hc⟩:=ih w0 g w args ck sr hv
  refine⟨dv,hc.mono fun e w3 ⟨v,t,g3,H3,he,hM,mC,nf,bR,pt⟩=>?_⟩
  obtain⟨t',b,cs,k,ht,jc,hb,hq⟩:=h2 _ _ hM
  cases ht
  have hφ:∃x,g3.φ b=some x:=by
   cases bR with
   | aP h=>simp only[hG]at jc;subst jc;exact⟨_,h⟩
   | bg hl h2 =>
    obtain⟨off,len,n,hm⟩:=jc
    obtain⟨i,hi⟩:=List.mem_iff_getElem?.1 hm
    have aC:=(List.getElem?_eq_some_iff.1 hi).1
    obtain⟨u,hu⟩:∃u,(Array.mk _)[i]?=some u:=⟨_,Array.getElem?_eq_getElem (Nat.lt_of_lt_of_eq aC hl.symm)⟩
    have:=h2 i _ _ hi hu
    cases this with
    | aP h=>exact⟨_,h⟩
   | _=>exact jc.elim
  obtain⟨nX,pw⟩:=nf.shrink k hb hφ
  exact⟨v,_,g3,_,he,hq,mC,nX,bR,pt.trans pw⟩
 | @B3 f as H Q fn M hf hn _ h2 ih =>
  intro w0 g w args ck sr hv
  obtain⟨an,kP⟩:=hE.fn f fn hf
  obtain⟨F,code,res,body,hF,hb,gQ,ko,dv,cW,aC,rfl⟩:=iG kP
  refine⟨dv,callsIn_of_wp_marks hF hb trivial ?_⟩
  have yd:=iH (F:=F) hv hn cW
  refine wpIn_mono (ih w0 g w _ F.ntmps an true code none ko (fun _=>rfl) ck sr yd).1 fun e a' w' qO=>?_
  obtain⟨ex,R',g',H',e1,hm,le,dg,eY,fr,kO,_⟩:=qO
  obtain⟨R2,bs,hex,zR,jy,ve,v0,ye,hq⟩:=h2 _ _ hm
  have Dp:Mk g (dk as F.ntmps) []:=⟨[],by simp only[dk];rw[List.getD_eq_getElem?_getD,List.getElem?_eq_none (by simp only at hn;omega)];rfl,.nil⟩
  obtain⟨ts,pK,GL⟩:=kO Dp
  have qP:R2=R'→LeavesInM (Fw none) 0 P F a'.tmps (jH w0 g w H fun v H'=>Q (.val v) H') a'.defers .returning w':=by
   rintro rfl
   simp only at zR hq ye
   rw[pK]at zR
   refine kC ts a'.defers bs g' H' w' R2 a' _ GL zR jy ve dg eY (fun w2 v vd wi _ wj _ bR=>⟨v,_,g',_,rfl,hq,le.trans vd,wi,bR,fr.trans wj⟩) ye fun g w H sr hr ht=>iE (P:=P) sr gQ aC hr ht
  cases e<;>simp only[ji,Option.some.injEq,reduceCtorEq]at e1<;>subst e1
  case normal=>rcases hex with hex|hex<;>cases hex;exact qP rfl
  case exit id=>rcases hex with hex|hex<;>cases hex
  case ret=>rcases hex with hex|hex<;>cases hex;exact qP rfl
 | @fn f as H Q fn M hf GM hn _ h2 ih =>
  intro w0 g w args ck sr hv
  obtain⟨an,kP⟩:=hE.fn f fn hf
  obtain⟨F,code,res,body,hF,hb,gQ,ko,dv,cW,aC,rfl⟩:=iG kP
  refine⟨dv,callsIn_of_wp hF hb trivial ?_⟩
  have yd:=iH (F:=F) hv hn cW
  refine wpIn_mono (ih w0 g w _ F.ntmps an true code none ko (fun _=>rfl) ck sr yd).1 fun e a' w' qO=>?_
  obtain⟨ex,R',g',H',e1,hm,le,dg,eY,fr,_,nY⟩:=qO
  obtain⟨R2,hex,v0,ye,hq⟩:=h2 _ _ hm
  have qP:∀(R2:ai),R2=R'→fC R2 H' res=some v0→a'.defers=[]∧∃v,(results F a'.tmps).run P w'=.ok v w'∧jH w0 g w H (fun v H'=>Q (.val v) H') (.returned v) w':=by
   rintro R2 rfl ye
   obtain⟨v,aJ,bR⟩:=iE (P:=P) dg gQ aC eY ye
   exact⟨(nY GM).2,v,aJ,v,_,g',H',rfl,hq,le,dg,bR,fr⟩
  cases e<;>simp only[ji,Option.some.injEq,reduceCtorEq]at e1<;>subst e1
  case normal=>rcases hex with hex|hex<;>cases hex;exact qP _ rfl ye
  case exit id=>rcases hex with hex|hex<;>cases hex
  case ret=>rcases hex with hex|hex<;>cases hex;exact qP _ rfl ye
 | @xl f as H Q b off len n i M hi _ h2 ih =>
  intro w0 g w args ck sr hv
  have aC:=(List.getElem?_eq_some_iff.1 hi).1
  have hl:=hv.1
  have wk:=hv.2 i _ _ hi (List.getElem?_eq_getElem (by omega))
  have hex:∃c,len≤c∧VR g w (.bT b off len n c) (args[i]'(by omega)):=by
   generalize args[i]'(by omega)=u at wk
   cases wk with
   | aP h hc hq=>exact⟨_,hc,.bT h hc hq⟩
  obtain⟨c,hc,nI⟩:=hex
  have o9:ax g w (as.set i (.bT b off len n c)) args:=⟨by simp[hl],fun j t v ha hb=>by
   by_cases e:j=i
   ·subst e
    rw[List.getElem?_set_self aC]at ha
    cases ha
    rw[List.getElem?_eq_getElem (by omega)]at hb
    cases hb
    exact nI
   ·rw[List.getElem?_set_ne (Ne.symm e)]at ha
    exact hv.2 j t v ha hb⟩
  obtain⟨dv,ko⟩:=ih c hc w0 g w args ck sr o9
  refine⟨dv,ko.mono fun e w3 ⟨v,t,g3,H3,he,hM,mC,nf,bR,pt⟩=>?_⟩
  exact⟨v,_,g3,H3,he,h2 _ _ hM,mC,nf,bR.yP,pt⟩
 | @pF f as H Q M _ h2 ih =>
  intro w0 g w args ck sr hv
  obtain⟨dv,hc⟩:=ih w0 g w args ck sr hv
  refine⟨dv,hc.mono fun e w3 ⟨v,t,g3,H3,he,hM,mC,nf,bR,pt⟩=>?_⟩
  obtain⟨t',b,cs,ht,jc,hb,hq⟩:=h2 _ _ hM
  cases ht
  have hφ:∃x,g3.φ b=some x:=by
   cases bR with
   | aP h=>simp only[hG]at jc;subst jc;exact⟨_,h⟩
   | bg hl h2 =>
    obtain⟨off,len,n,hm⟩:=jc
    obtain⟨i,hi⟩:=List.mem_iff_getElem?.1 hm
    have aC:=(List.getElem?_eq_some_iff.1 hi).1
    obtain⟨u,hu⟩:∃u,(Array.mk _)[i]?=some u:=⟨_,Array.getElem?_eq_getElem (Nat.lt_of_lt_of_eq aC hl.symm)⟩
    have:=h2 i _ _ hi hu
    cases this with
    | aP h=>exact⟨_,h⟩
   | _=>exact jc.elim
  obtain⟨g4,lT,nX,pw,qM⟩:=nf.freeze hb hφ
  exact⟨v,_,g4,_,he,hq,mC.trans lT,nX,qM _ _ bR,pt.trans pw⟩
 | @xm f as H Q b off len n cs i hi hb _ ih =>
  intro w0 g w args ck sr hv
  have aC:=(List.getElem?_eq_some_iff.1 hi).1
  have hl:=hv.1
  have wk:=hv.2 i _ _ hi (List.getElem?_eq_getElem (by omega))
  have hφ:∃x,g.φ b=some x:=by
   generalize args[i]'(by omega)=u at wk
   cases wk with
   | aP h=>exact⟨_,h⟩
  obtain⟨g4,lT,nX,pw,qM⟩:=sr.freeze hb hφ
  have o9:ax g4 w (as.map (mH b cs)) args:=⟨by simp[hl],fun j t v ha cU=>by
   rw[List.getElem?_map]at ha
   obtain⟨t0,h0,rfl⟩:=Option.map_eq_some_iff.1 ha
   exact qM _ _ (hv.2 j t0 v h0 cU)⟩
  obtain⟨dv,hc⟩:=ih w0 g4 w args (ck.mono lT) nX o9
  exact⟨dv,hc.mono fun e w3 ⟨v,t,g3,H3,he,hM,mC,nf,bR,pt⟩=>⟨v,t,g3,H3,he,hM,lT.trans mC,nf,bR,pw.trans pt⟩⟩
 | @CA f as H Q b cs hk hb _ ih =>
  intro w0 g w args ck sr hv
  have hφ:∃x,g.φ b=some x:=by
   obtain⟨i,b',off,len,n,hi,hk⟩:=hk
   have aC:=(List.getElem?_eq_some_iff.1 hi).1
   have hl:=hv.1
   have wk:=hv.2 i _ _ hi (List.getElem?_eq_getElem (by omega))
   generalize args[i]'(by omega)=u at wk
   cases wk with
   | @aP _ _ _ _ r o q cap h0 =>
    rcases hk with rfl|⟨Gj,j,xj,xk,n',cU,hc⟩
    ·exact⟨_,h0⟩
    ·have nI:∃v,VR g w (.aP b xj xk n') v:=by
      rcases cU with cU|cU
      ·obtain⟨_,v,_,o9⟩:=(sr.dt _ _ cU r o q h0).2.2 j _ hc
       exact⟨v,o9⟩
      ·obtain⟨_,v,_,o9⟩:=(sr.dt _ _ cU r o q h0).2 j _ hc
       exact⟨v,o9⟩
     obtain⟨v,nI⟩:=nI
     cases nI with
     | aP h=>exact⟨_,h⟩
  obtain⟨g4,lT,nX,pw⟩:=sr.uU hb hφ
  obtain⟨dv,hc⟩:=ih w0 g4 w args (ck.mono lT) nX (hv.mono lT)
  exact⟨dv,hc.mono fun e w3 ⟨v,t,g3,H3,he,hM,mC,nf,bR,pt⟩=>⟨v,t,g3,H3,he,hM,lT.trans mC,nf,bR,pw.trans pt⟩⟩
 | @vw f as te H Q hl GN _ ih =>
  intro w0 g w args ck sr hv
  exact ih w0 g w args ck sr ⟨hl.trans hv.1,fun j t v ha cU=>by
   have aC:=(List.getElem?_eq_some_iff.1 ha).1
   exact(GN j _ t (List.getElem?_eq_getElem (by omega)) ha).ok sr v (hv.2 j _ v (List.getElem?_eq_getElem (by omega)) cU)⟩
 | @g9 f as H Q h =>
  intro w0 g w args ck sr hv
  exact hE.g9 f as H _ h w0 g w args sr hv
inductive Sh where
 | int (k:IntKind)|str|bool
 | sl (l:List Sh)
 | ag (l:List Sh)
def px (P:Program)(f:TypeId→Option (List Sh)):List Field→Nat→Option (List Sh)
 | [],_=>some []
 | x :: xs,off=>match f x.type with
  | some l=>if x.offset=off∧l.length=P.cellsOf x.type then(px P f xs (off+l.length)).map (l++·)else none
  | none=>none
def n4 (k:Nat)(e:TypeId)(c:Nat):List Field:=(List.range k).map fun i=>{ (default:Field)with type:=e,offset:=i*c }
def jj (P:Program):Nat→TypeId→Option (List Sh)
 | 0,_=>none
 | n+1,t=>match P.underlying t with
  | some .bool=>some [.bool]
  | some (.int k)=>some [.int k]
  | some .string=>some [.str]
  | some (.slice e)=>match jj P n e with
   | some l=>if l.length=P.cellsOf e∧l.length≠0 then some [.sl l]else none
   | none=>none
  | some (.struct fs)=>match px P (jj P n) fs.toList 0 with
   | some l=>if l.length=P.cellsOf t then some l else none
   | none=>none
  | some (.array k e)=>match px P (jj P n) (n4 k e (P.cellsOf e)) 0 with
   | some l=>if l.length=P.cellsOf t then some l else none
   | none=>none
  | _=>none
inductive cz (B:Nat):Sh→T→Prop
 | int {k n} (h:(Lit.int k n).wf=true):cz B (.int k) (.int k n)
 | bool (b):cz B .bool (.bool b)
 | str {s:ByteArray} (h:s.size≤maxLen) (hB:s.size≤B):cz B .str (.str s)
 | nil {l}:cz B (.sl l) (.sl .nil [])
 | sl {l es} (hl:es.length≤maxLen) (hB:es.length≤B) (h0:∀c∈es,c.length=l.length) (h:∀c∈es,∀(j:Nat) (s:Sh) (t:T),l[j]?=some s→c[j]?=some t→cz B s t):cz B (.sl l) (.sl .arg es)
 | ag {l cs} (hl:cs.length=l.length) (h:∀(j:Nat) (s:Sh) (t:T),l[j]?=some s→cs[j]?=some t→cz B s t):cz B (.ag l) (.agg cs)
mutual
def T.bk:T→Nat
 | .str s=>s.size+1
 | .sl _ es=>y7 es+1
 | _=>1
def iY:List T→Nat
 | []=>0
 | t :: ts=>t.bk+iY ts
def y7:List (List T)→Nat
 | []=>0
 | c :: es=>iY c+y7 es
end
theorem vj (a b:List T):iY (a++b)=iY a+iY b:=by
 induction a with
 | nil=>simp[iY]
 | cons t a ih=>simp only[List.cons_append,iY,ih];omega
mutual
def a0 {H:Type}:DataW H→Nat
 | .lit (.string bytes)=>bytes.length+1
 | .lit _=>1
 | .nil=>1
 | .ptr d=>a0 d+1
 | .slice elems spare=>aK elems+aK spare+1
 | .agg parts=>aK parts+1
 | .iface _ d=>a0 d+1
 | .map entries=>fR entries+1
 | .held _=>1
def aK {H:Type}:List (DataW H)→Nat
 | []=>0
 | d :: r=>a0 d+aK r
def fR {H:Type}:List (Lit×DataW H)→Nat
 | []=>0
 | x :: r=>ng x+fR r
def ng {H:Type}:Lit×DataW H→Nat
 | (.string bytes,d)=>bytes.length+a0 d+1
 | (_,d)=>a0 d+1
end
theorem eG {H:Type}(d:DataW H):1≤a0 d:=by
 cases d with
 | lit l=>cases l<;>simp[a0]
 | _=>simp[a0]
theorem gw {H:Type}{d:DataW H}{l:List (DataW H)}(h:d∈l):a0 d≤aK l:=by
 induction l with
 | nil=>cases h
 | cons x r ih =>
  simp only[aK]
  rcases List.mem_cons.1 h with rfl|h
  ·omega
  ·have:=ih h;omega
theorem qQ {H:Type}:∀(es:List (List T)) (ds:List (DataW H)),es.length≤ds.length→(∀(i:Nat) c d,es[i]?=some c→ds[i]?=some d→iY c≤a0 d)→y7 es≤aK ds
 | [],_,_,_=>by simp[y7]
 | c :: es,[],h,_=>by simp at h
 | c :: es,d :: ds,h,hk=>by
  have h1:=hk 0 c d rfl rfl
  have h2:=qQ es ds (by simpa using h) fun i c d a b=>hk (i+1) c d (by simpa using a) (by simpa using b)
  simp only[y7,aK];omega
theorem qR {H:Type}(l:List (DataW H)):l.length≤aK l:=by
 induction l with
 | nil=>simp
 | cons x r ih=>have:=eG x;simp only[aK,List.length_cons];omega
def g0 (P:Program)(W:World):Ctx:=⟨fun _=>none,fun r _=>if r<W.heap.size then .cF else .free,fun _ _=>none,fun n c k=>∃an,aw P n an false k=some c⟩
theorem GO (P:Program)(W:World):SR W (g0 P W) [] W where
 size:=Nat.le_refl _
 eo _ _:=rfl
 oN r o h:=by simp[g0,h]
 fresh r o h:=by simp only[g0];rw[if_neg (by omega)]
 gN b x h:=by simp[g0]at h
 cp t e x h:=by simp[g0]at h
 dt b x h:=by simp at h
 env:=⟨rfl,rfl⟩
theorem GP (P:Program)(W:World):bZ P (g0 P W):=fun _ _ _=>Iff.rfl
theorem n5 {α:Type}{Q:Nat→α→Prop}:∀(n:Nat),(∀i,i<n→∃c,Q i c)→∃l:List α,l.length=n∧∀(i:Nat) (c:α),l[i]?=some c→Q i c
 | 0,_=>⟨[],rfl,by simp⟩
 | n+1,h=>by
  obtain⟨l,hl,hq⟩:=n5 n fun i hi=>h i (by omega)
  obtain⟨c,hc⟩:=h n (by omega)
  refine⟨l++[c],by simp[hl],fun i d hd=>?_⟩
  by_cases hi:i<n
  ·rw[List.getElem?_append_left (by omega)]at hd;exact hq i d hd
  ·rw[List.getElem?_append_right (by omega)]at hd
   have:i=n:=by
    have:=(List.getElem?_eq_some_iff.1 hd).1;simp at this;omega
   subst this;simp[hl]at hd;subst hd;exact hc
section
variable {H:Type} {enc:TypeId×Value→H} {P:Program} {W:World} {held:Bool} {B:Nat}
theorem lW {a:Addr}{n:Nat}{cs:List Value}(h:W.cells? 0 a n=some cs):cs.length=n∧∀(j:Nat) (v:Value),cs[j]?=some v→W.cell? (a.add j)=some v:=by
 unfold World.cells? at h
 rw[if_pos (Nat.zero_le _)]at h
 have key:∀(n:Nat) (cs:List Value),(List.range n).mapM (fun i=>W.cell? (a.add i))=some cs→cs.length=n∧∀(j:Nat) (v:Value),cs[j]?=some v→W.cell? (a.add j)=some v:=by
  intro n
  induction n with
  | zero=>intro cs h;simp at h;subst h;simp
  | succ n ih =>
   intro cs h
   rw[List.range_succ,List.mapM_append]at h
   cases h1:(List.range n).mapM (fun i=>W.cell? (a.add i))with
   | none=>simp[h1]at h
   | some l =>
    cases h2:W.cell? (a.add n)with
    | none=>simp[h1,h2]at h
    | some v =>
     simp[h1,h2]at h
     subst h
     obtain⟨k1,k2⟩:=ih l h1
     refine⟨by simp[k1],fun j u hj=>?_⟩
     by_cases Cf:j<n
     ·rw[List.getElem?_append_left (by omega)]at hj;exact k2 j u hj
     ·rw[List.getElem?_append_right (by omega)]at hj
      have:j=n:=by
       have:=(List.getElem?_eq_some_iff.1 hj).1;simp at this;omega
      subst this;simp[k1]at hj;subst hj;exact h2
 exact key n cs h
def Reads (enc:TypeId×Value→H)(P:Program)(W:World)(held:Bool)(B:Nat)(t:TypeId)(l:List Sh):Prop :=
 ∀fuel cs d ps,DataW.trod enc P W 0 (fun _=>true) held fuel t cs=some (d,ps)→a0 d≤B→cs.length=l.length∧∃ts:List T,ax (g0 P W) W ts cs∧aR ts∧(∀(j:Nat) (s:Sh) (t:T),l[j]?=some s→ts[j]?=some t→cz B s t)∧iY ts≤a0 d
theorem ea {f:TypeId→Option (List Sh)}{n:Nat}{cs:List Value}:∀(fs:List Field) (off:Nat) (l:List Sh) (xs:List (DataW H×List MemPlace)),px P f fs off=some l→(∀x∈fs,∀l',f x.type=some l'→Reads enc P W held B x.type l') →
  xs.length=fs.length→(∀(i:Nat) (x:Field),fs[i]?=some x→DataW.trod enc P W 0 (fun _=>true) held n x.type ((cs.drop x.offset).take (P.cellsOf x.type))=xs[i]?)→(∀x∈xs,a0 x.1≤B)→off+l.length≤cs.length →
  ∃ts:List T,ax (g0 P W) W ts ((cs.drop off).take l.length)∧aR ts∧(∀(j:Nat) (s:Sh) (t:T),l[j]?=some s→ts[j]?=some t→cz B s t)∧iY ts≤aK (xs.map (·.1))
 | [],off,l,xs,h,_,_,_,_,_=>by
  simp only[px,Option.some.injEq]at h;subst h
  exact⟨[],by simpa using ax.nil,by simp[aR],by simp,by simp[iY]⟩
 | x :: fs,off,l,xs,h,hr,hl,ht,hb,hle=>by
  simp only[px]at h
  split at h
  ·rename_i l1 h1
   split at h
   ·rename_i hc
    simp only[Option.map_eq_some_iff]at h
    obtain⟨l2,h2,rfl⟩:=h
    cases xs with
    | nil=>simp at hl
    | cons y xs =>
     have t0:=ht 0 x rfl
     simp only[List.getElem?_cons_zero]at t0
     obtain⟨d,ps⟩:=y
     obtain⟨a1,Fy,a2,a3,a4,a5⟩:=hr x (by simp) l1 h1 n _ d ps t0 (hb (d,ps) (by simp))
     obtain⟨GQ,b2,b3,b4,b5⟩:=ea fs (off+l1.length) l2 xs h2 (fun z hz=>hr z (by simp[hz])) (by simpa using hl) (fun i z hz=>by have:=ht (i+1) z (by simpa using hz);simpa using this) (fun z hz=>hb z (by simp[hz])) (by simp at hle;omega)
     have e1:(cs.drop off).take (l1++l2).length=(cs.drop x.offset).take (P.cellsOf x.type)++(cs.drop (off+l1.length)).take l2.length:=by
      rw[hc.1,←hc.2,List.length_append,List.take_add,List.drop_drop]
     have zV:Fy.length=l1.length:=by rw[a2.1,a1]
     refine⟨Fy++GQ,by rw[e1];exact a2.append b2,fun t ht=>?_,fun j s t hs ht=>?_,by rw[vj];simp only[List.map_cons,aK];omega⟩
     ·rcases List.mem_append.1 ht with h|h
      ·exact a3 t h
      ·exact b3 t h
     ·by_cases hj:j<l1.length
      ·rw[List.getElem?_append_left hj]at hs
       rw[List.getElem?_append_left (by omega)]at ht
       exact a4 j s t hs ht
      ·rw[List.getElem?_append_right (by omega)]at hs
       rw[List.getElem?_append_right (by omega),zV]at ht
       exact b4 _ s t hs ht
   ·cases h
  ·cases h
theorem yf {r o:Nat}{v:Value}(h:W.cell? ⟨r,o,none⟩=some v):my (g0 P W) W r o v:=⟨by simp[g0,dP h],h⟩
theorem reads:∀(n:Nat) (t:TypeId) (l:List Sh),jj P n t=some l→Reads enc P W held B t l
 | 0,_,_,h=>by simp[jj]at h
 | n+1,t,l,h=>by
  intro fuel cs d ps hd hb
  simp only[jj]at h
  split at h
  ·rename_i hu;cases h
   obtain⟨b,rfl,hx⟩:=DataW.trod_bool hu hd
   exact⟨rfl,[.bool b],ax.cons (.bool b) ax.nil,by simp[aR,T.one],fun j s t hs ht=>by cases j with
    | zero=>simp at hs ht;subst hs;subst ht;exact .bool b
    | succ j=>simp at hs,by have:=eG d;simp only[iY,T.bk];omega⟩
  ·rename_i k hu;cases h
   obtain⟨m,rfl,hx,hw⟩:=DataW.trod_int hu hd
   exact⟨rfl,[.int k m],ax.cons (.int k m) ax.nil,by simp[aR,T.one],fun j s t hs ht=>by cases j with
    | zero=>simp at hs ht;subst hs;subst ht;exact .int hw
    | succ j=>simp at hs,by have:=eG d;simp only[iY,T.bk];omega⟩
  ·rename_i hu;cases h
   obtain⟨s,rfl,hx,hw⟩:=DataW.trod_string hu hd
   cases hx
   exact⟨rfl,[.str s],ax.cons (.str s) ax.nil,by simp[aR,T.one],fun j s' t hs ht=>by cases j with
    | zero=>simp at hs ht;subst hs;subst ht;exact .str hw (by simp[a0]at hb;have:s.data.size=s.size:=rfl;omega)
    | succ j=>simp at hs,by simp only[iY,T.bk,a0];have:s.data.size=s.size:=rfl;simp⟩
  ·rename_i e hu
   split at h
   ·rename_i le he
    split at h
    ·rename_i hc
     cases h
     have ih:=reads n e le he
     rcases DataW.trod_slice hu hd with⟨rfl,hx⟩|⟨a,len,cap,elems,rest,m,_,rfl,hx,_,h1,h2,h3,h4,h5,_⟩
     ·exact⟨rfl,[.sl .nil []],ax.cons .slnil ax.nil,by simp[aR,T.one],fun j s t hs ht=>by cases j with
       | zero=>simp at hs ht;subst hs;subst ht;exact .nil
       | succ j=>simp at hs,by have:=eG d;simp only[iY,T.bk,y7];omega⟩
     ·cases hx
      have zW:∀x∈elems,a0 x.1≤B:=fun x hx=>by
       have:=gw (List.mem_map_of_mem (f:=(·.1)) hx);simp only[a0]at hb;omega
      have IE:len≤B:=by
       have:=qR (elems.map (·.1));simp only[a0]at hb;simp at this;omega
      have zG:∀i,i<len→∃c:List T,c.length=le.length∧∃us,W.cells? 0 (a.add (i*P.cellsOf e)) (P.cellsOf e)=some us∧ax (g0 P W) W c us∧aR c∧(∀(j:Nat) (s:Sh) (t:T),le[j]?=some s→c[j]?=some t→cz B s t)∧∀d,(elems.map (·.1))[i]?=some d→iY c≤a0 d:=by
       intro i hi
       have hk:=h4 i hi
       have fV:i<elems.length:=by omega
       rw[List.getElem?_eq_getElem fV]at hk
       obtain⟨us,k1,k2⟩:=Option.bind_eq_some_iff.1 hk
       obtain⟨q1,ts,q2,q3,q4,q5⟩:=ih m us elems[i].1 elems[i].2 k2 (zW _ (List.getElem_mem fV))
       exact⟨ts,by rw[q2.1,q1],us,k1,q2,q3,q4,fun d hd=>by rw[List.getElem?_map,List.getElem?_eq_getElem fV]at hd;simp only[Option.map_some,Option.some.injEq]at hd;subst hd;exact q5⟩
      obtain⟨es,Fz,zX⟩:=n5 len zG
      have zI:cz B (.sl le) (.sl .arg es):=.sl (by omega) (by omega) (fun c hc=>by
       obtain⟨i,hi,rfl⟩:=List.getElem_of_mem hc
       exact(zX i _ (List.getElem?_eq_getElem hi)).1) (fun c hc=>by
       obtain⟨i,hi,rfl⟩:=List.getElem_of_mem hc
       obtain⟨_,_,_,_,_,q,_⟩:=zX i _ (List.getElem?_eq_getElem hi)
       exact q)
      have bR:VR (g0 P W) W (.sl .arg es) (.slice (some a) len cap):=by
       by_cases fF:cap=0
       ·have:len=0:=by omega
        subst this;subst fF
        have:es=[]:=List.eq_nil_of_length_eq_zero Fz
        subst this;exact .dm _
       ·have wm:a.spot=none:=by
         have cJ:∃us,W.cells? 0 (a.add (0*P.cellsOf e)) (P.cellsOf e)=some us:=by
          by_cases hl:0<len
          ·obtain⟨_,_,us,k,_⟩:=zG 0 hl;exact⟨us,k⟩
          ·have h0:len=0:=by omega
           obtain⟨k1,k2⟩:=h5 rfl
           have:=k2 0 (by omega)
           have hr:0<rest.length:=by omega
           rw[List.getElem?_eq_getElem hr,h0]at this
           obtain⟨us,k3,_⟩:=Option.bind_eq_some_iff.1 this
           exact⟨us,by simpa using k3⟩
         obtain⟨us,GR⟩:=cJ
         obtain⟨k1,k2⟩:=lW GR
         have xN:0<us.length:=by omega
         have mK:=k2 0 us[0] (List.getElem?_eq_getElem xN)
         unfold World.cell? at mK
         split at mK
         ·split at mK
          ·cases mK
          ·rename_i mA;simpa[Addr.add]using mA
         ·cases mK
        obtain⟨r,o,sp⟩:=a
        simp only at wm;subst wm
        rw[←Fz]
        have hn:∀c∈es,c.length=le.length:=fun c hc=>by
         obtain⟨i,hi,rfl⟩:=List.getElem_of_mem hc
         exact(zX i _ (List.getElem?_eq_getElem hi)).1
        have cJ:∀(i j:Nat) (c:List T) (t:T),es[i]?=some c→c[j]?=some t→∃v,W.cell? ⟨r,o+i*le.length+j,none⟩=some v∧VR (g0 P W) W t v∧t.one=true:=by
         intro i j c t hi hj
         obtain⟨q1,us,q2,q3,q4,_⟩:=zX i c hi
         obtain⟨k1,k2⟩:=lW q2
         have FA:j<us.length:=by rw[←q3.1];exact(List.getElem?_eq_some_iff.1 hj).1
         refine⟨us[j],?_,q3.2 j t _ hj (List.getElem?_eq_getElem FA),q4 t (List.mem_of_getElem? hj)⟩
         have:=k2 j us[j] (List.getElem?_eq_getElem FA)
         rw[←hc.1,a8,a8]at this
         exact this
        refine .sl (n:=le.length) (fun i j=>(W.cell? ⟨r,o+i*le.length+j,none⟩).getD undef) trivial (by omega) hn (fun i j c t hi hj=>?_) (fun i j c t hi hj=>?_)
        ·obtain⟨v,q1,q2,q3⟩:=cJ i j c t hi hj
         exact⟨q3,by rw[q1];exact yf q1⟩
        ·obtain⟨v,q1,q2,q3⟩:=cJ i j c t hi hj
         rw[q1];exact q2
      exact⟨rfl,[.sl .arg es],ax.cons bR ax.nil,by simp[aR,T.one],fun j s t hs ht=>by cases j with
       | zero=>simp at hs ht;subst hs;subst ht;exact zI
       | succ j=>simp at hs,by
       have FB:=qQ es (elems.map (·.1)) (by simp;omega) fun i c d hc hd=>by
        obtain⟨_,_,_,_,_,_,q⟩:=zX i c hc
        exact q d hd
       simp only[iY,T.bk,a0];omega⟩
    ·cases h
   ·cases h
  ·rename_i fs hu
   split at h
   ·rename_i l' Dq
    split at h
    ·rename_i hc
     cases h
     obtain⟨xs,m,_,hx,k1,k2,k3⟩:=DataW.trod_struct hu hd
     cases hx
     have zW:∀x∈xs,a0 x.1≤B:=fun x hx=>by
      have:=gw (List.mem_map_of_mem (f:=(·.1)) hx);simp only[a0]at hb;omega
     obtain⟨ts,a1,a2,a3,a4⟩:=ea (n:=m) (cs:=cs) fs.toList 0 l xs Dq (fun x _ l2 h2=>reads n x.type l2 h2) (by simpa using k2) (fun i x hi=>k3 i x (by simpa using hi)) zW (by omega)
     have e1:(cs.drop 0).take l.length=cs:=by rw[List.drop_zero,hc,←k1];simp
     rw[e1]at a1
     exact⟨by omega,ts,a1,a2,a3,by simp only[a0];omega⟩
    ·cases h
   ·cases h
  ·rename_i k e hu
   split at h
   ·rename_i l' Dq
    split at h
    ·rename_i hc
     cases h
     obtain⟨xs,m,_,hx,k1,k2,k3⟩:=DataW.trod_array hu hd
     cases hx
     have zW:∀x∈xs,a0 x.1≤B:=fun x hx=>by
      have:=gw (List.mem_map_of_mem (f:=(·.1)) hx);simp only[a0]at hb;omega
     obtain⟨ts,a1,a2,a3,a4⟩:=ea (n:=m) (cs:=cs) (n4 k e (P.cellsOf e)) 0 l xs Dq (fun x hx l2 h2=>by
      obtain⟨i,_,rfl⟩:=List.mem_map.1 hx;exact reads n e l2 h2) (by rw[k2];simp[n4]) (fun i x hi=>by
      simp only[n4,List.getElem?_map,Option.map_eq_some_iff]at hi
      obtain⟨j,hj,rfl⟩:=hi
      obtain⟨h1,h2⟩:=List.getElem?_eq_some_iff.1 hj
      rw[List.getElem_range]at h2
      subst h2
      exact k3 i (by simpa using h1)) zW (by omega)
     have e1:(cs.drop 0).take l.length=cs:=by rw[List.drop_zero,hc,←k1];simp
     rw[e1]at a1
     exact⟨by omega,ts,a1,a2,a3,by simp only[a0];omega⟩
    ·cases h
   ·cases h
  ·cases h
def qS (P:Program)(t:TypeId):Option Sh:=match P.underlying t with
 | some .bool|some (.int _)|some .string|some (.slice _)=>match jj P 9 t with
  | some [s]=>some s
  | _=>none
 | some (.struct _)|some (.array _ _)=>match jj P 9 t with
  | some l=>some (.ag l)
  | none=>none
 | _=>none
def iI (P:Program):List TypeId→Option (List Sh)
 | []=>some []
 | t :: ts=>match qS P t,iI P ts with
  | some s,some l=>some (s :: l)
  | _,_=>none
inductive gx (B:Nat):List Sh→List T→Prop
 | nil:gx B [] []
 | cons {s t ss ts} (h:cz B s t) (hs:gx B ss ts):gx B (s :: ss) (t :: ts)
theorem qT {base:Nat}{t:TypeId}{s:Sh}{v:Value}{d:DataW H}{p:List MemPlace}(h:qS P t=some s)(hv:Value.okWide P W .any base t v)(hf:DataW.Trod enc P W 0 (fun _=>true) held t v d p)(hB:a0 d≤B) :
  ∃u:T,VR (g0 P W) W u v∧cz B s u∧u.bk≤a0 d:=by
 obtain⟨fuel,hf⟩:=hf
 have one:(∀cs,v≠.agg cs)→v.cells.toList=[v]:=by
  intro h;cases v<;>first|rfl|exact absurd rfl (h _)
 have sc:v.cells.toList=[v]→(match jj P 9 t with|some [s]=>some s|_=>none)=some s→∃u:T,VR (g0 P W) W u v∧cz B s u∧u.bk≤a0 d:=by
  intro Ds h
  split at h
  ·rename_i s' h3
   cases h
   obtain⟨c1,us,c2,c3,c4,c5⟩:=reads (B:=B) 9 t [s] h3 fuel _ d p hf hB
   rw[Ds]at c2
   have FC:us.length=1:=by have:=c2.1;simpa using this
   obtain⟨u,rfl⟩:∃u,us=[u]:=by
    cases us with
    | nil=>simp at FC
    | cons u GS=>cases GS with
     | nil=>exact⟨u,rfl⟩
     | cons _ _=>simp at FC
   exact⟨u,c2.head,c4 0 s u rfl rfl,by simp only[iY]at c5;omega⟩
  ·cases h
 have ag:(∃cs,v=.agg cs)→(match jj P 9 t with|some l=>some (Sh.ag l)|none=>none)=some s→∃u:T,VR (g0 P W) W u v∧cz B s u∧u.bk≤a0 d:=by
  rintro⟨cs,rfl⟩ h
  split at h
  ·rename_i l h3
   cases h
   obtain⟨c1,us,c2,c3,c4,c5⟩:=reads (B:=B) 9 t l h3 fuel _ d p hf hB
   have hc:(Value.agg cs).cells.toList=cs.toList:=rfl
   rw[hc]at c1 c2
   refine⟨.agg us,.agg (by have:=c2.1;simpa using this.symm) c3 (fun i t v a b=>c2.2 i t v a (by simpa using b)),.ag (by rw[c2.1,c1]) c4,by have:=eG d;simp only[T.bk];omega⟩
  ·cases h
 simp only[qS]at h
 split at h
 ·rename_i hu
  exact sc (one (by rintro cs rfl;simp[Value.okWide,hu,Cell.okWide,Cell.ok]at hv)) h
 ·rename_i hu
  exact sc (one (by rintro cs rfl;simp[Value.okWide,hu,Cell.okWide,Cell.ok]at hv)) h
 ·rename_i hu
  exact sc (one (by rintro cs rfl;simp[Value.okWide,hu,Cell.okWide,Cell.ok]at hv)) h
 ·rename_i hu
  exact sc (one (by rintro cs rfl;simp[Value.okWide,hu,Cell.okWide,Cell.ok]at hv)) h
 ·rename_i hu
  exact ag (by cases v<;>first|exact⟨_,rfl⟩|simp[Value.okWide,hu]at hv) h
 ·rename_i hu
  exact ag (by cases v<;>first|exact⟨_,rfl⟩|simp[Value.okWide,hu]at hv) h
 ·cases h
theorem jM {base:Nat}:∀(ts:List TypeId) (vn:List Sh) (args:List Value) (ds:List (DataW H)) (p:List MemPlace),iI P ts=some vn→(∀(j:Nat) t v,ts[j]?=some t→args[j]?=some v→Value.okWide P W .any base t v) →
  DataW.TrodAll enc P W 0 (fun _=>true) held ts args ds p→aK ds≤B→∃as:List T,ax (g0 P W) W as args∧gx B vn as∧iY as≤aK ds
 | [],vn,args,ds,p,h,_,hA,_=>by
  cases args<;>cases ds<;>simp[DataW.TrodAll]at hA
  simp only[iI,Option.some.injEq]at h;subst h
  exact⟨[],ax.nil,.nil,by simp[iY]⟩
 | t :: ts,vn,args,ds,p,h,py,hA,hB=>by
  cases args with
  | nil=>cases ds<;>simp[DataW.TrodAll]at hA
  | cons v args =>
   cases ds with
   | nil=>simp[DataW.TrodAll]at hA
   | cons d ds =>
    obtain⟨p,q,hf,h2,_⟩:=hA
    simp only[iI]at h
    split at h
    ·rename_i s l h3 h4
     cases h
     simp only[aK]at hB
     obtain⟨as,b1,b2,b3⟩:=jM ts l args ds q h4 (fun j t v a b=>py (j+1) t v (by simpa using a) (by simpa using b)) h2 (by omega)
     obtain⟨u,c1,c2,c3⟩:=qT (B:=B) (base:=base) (d:=d) (p:=p) h3 (py 0 t v rfl rfl) hf (by omega)
     refine⟨u :: as,ax.cons c1 b1,.cons c2 b2,?_⟩
     show T.bk u+iY as≤a0 d+aK ds
     omega
    ·cases h
end
end Go.Rmp
end

section
namespace Go.Rmp
open Go.ChangeShapes Go.RowKit
section
variable {H:Type} {enc:TypeId×Value→H} {P:Program} {W W':World}
theorem e9 {sp:Nat→Bool}{held:Bool}:∀(ts:List TypeId) (vs:List Value) (ds:List (DataW H)) (ps:List MemPlace),DataW.TrodAll enc P W 0 sp held ts vs ds ps→(∀p∈ps,W.sameAt W' p)→DataW.TrodAll enc P W' 0 sp held ts vs ds ps
 | [],[],[],_,h,_=>h
 | t :: ts,v :: vs,d :: ds,ps,⟨p,q,⟨n,hn⟩,h2,e⟩,hs=>⟨p,q,⟨n,DataW.trod_carry n t _ _ hn (fun x hx=>hs x (by rw[e];exact List.mem_append_left _ hx))⟩,e9 ts vs ds q h2 (fun x hx=>hs x (by rw[e];exact List.mem_append_right _ hx)),e⟩
 | [],_ :: _,_,_,h,_=>h.elim
 | [],[],_ :: _,_,h,_=>h.elim
 | _ :: _,[],_,_,h,_=>h.elim
 | _ :: _,_ :: _,[],_,h,_=>h.elim
theorem ni {g:Ctx}{Hh:aa}(h:SR W g Hh W')(S:MemPlace→Prop):W.keptBut W' S:=by
 refine⟨h.env.1,h.env.2,fun i hi=>?_⟩
 rw[h.eo i hi]
 exact(World.keptBut_refl W S).2.2 i hi
theorem nj (h:∀r,r<W.heap.size→W'.heap[r]?=W.heap[r]?){b o:Nat}(hb:b<W.heap.size):W'.frozen? ⟨b,o,none⟩=W.frozen? ⟨b,o,none⟩:=by
 unfold World.frozen?
 rw[h _ hb]
theorem pz {E:Env}(hE:nT P E){f:FuncId}{as:List T}{args:List Value}(hv:ax (g0 P W) W as args)(hW:Go.Rmp.W E (.call f as) [] (fun o _=>o=.val (.bool true))) :
  Calls P f args.toArray W fun e W'=>e=.returned (.bool true)∧(∀S,W.keptBut W' S)∧∀r,r<W.heap.size→W'.heap[r]?=W.heap[r]?:=by
 obtain⟨_,hc⟩:=Go.Rmp.W.GH hE hW W (g0 P W) W args (GP P W) (GO P W) hv
 refine(callsIn_wide.1 hc).mono fun e W' ⟨v,t,g',H',he,hq,_,sr,bR,_⟩=>?_
 cases hq
 cases bR
 exact⟨he,ni sr,sr.eo⟩
theorem jk {E:Env}(hE:nT P E){f:FuncId}{fn:Func}{s:ChangeSpec}{vn:List Sh}{B:Nat}{tb:TypeId}(K:Kids P (·<P.types.size))(hz:∀t e,t<P.types.size→P.underlying t=some (.slice e)→0<P.cellsOf e)
  (zI:iI P fn.params.toList=some vn) (aC:∀t∈fn.params.toList,t<P.types.size) (FD:fn.resultTypes=#[tb]) (FE:P.underlying tb=some .bool) (wo:s.vars=[])
  (kP:∀ds:List (DataW H),ds.length=fn.params.toList.length→s.fn H ds={ results:=[.lit (.bool true)],args:=ds })
  (Dt:∀as:List T,gx B vn as→iY as≤B→Go.Rmp.W E (.call f as) [] (fun o _=>o=.val (.bool true)))
  (base:Nat) (args:Array Value) (ds gs:List (DataW H)) (before:List MemPlace)
  (py:∀(j:Nat) t v,fn.params[j]?=some t→args[j]?=some v→Value.okWide P W .any base t v)
  (hW:DataW.Whole enc P fn.params.toList s.vars false W args.toList ds gs before) (hB:aK (ds++gs)≤B) :
  Calls P f args W fun e W'=>∃v,e=.returned v∧s.post enc P fn false true false false W args v W':=by
 have Cp:=hW
 obtain⟨p,q,hA,hV,CM,B5,jy⟩:=hW
 rw[wo]at hV
 obtain⟨rfl,rfl⟩:gs=[]∧q=[]:=by
  cases gs with
  | nil=>exact⟨rfl,hV⟩
  | cons _ _=>exact hV.elim
 simp only[List.append_nil]at CM hB
 subst CM
 obtain⟨as,fW,GU,FB⟩:=jM fn.params.toList vn args.toList ds before zI (fun j t v a b=>py j t v (by simpa using a) (by simpa using b)) hA hB
 have hc:=pz hE fW (Dt as GU (Nat.le_trans FB hB))
 rw[Array.toArray_toList]at hc
 refine hc.mono fun e W' ⟨he,hg,hold⟩=>⟨_,he,?_⟩
 have hlen:ds.length=fn.params.toList.length:=(trodAll_length hA).2
 have yg:=kP ds hlen
 have mA:∀p∈before,(fun b=>decide (b<W.heap.size)) p.block=true:=fun p hp=>by simpa using Cp.lt p hp
 have nZ:∀sp:Nat→Bool,(∀p∈before,sp p.block=true)→DataW.TrodAll enc P W' 0 sp true fn.params.toList args.toList (s.fn H (ds++[])).args before:=by
  intro sp mA
  rw[List.append_nil,yg]
  refine DataW.TrodAll.respare K hz aC (e9 _ _ _ _ hA fun x hx=>?_) mA
  have hb:=Cp.lt x hx
  cases x with
  | cell b o=>simp only[World.sameAt,World.cell?];rw[hold b hb]
  | map b=>exact hold b hb
 have gQ:∀(b:Nat) (sp:Nat→Bool) (hd:Bool),DataW.TrodAll enc P W' b sp hd fn.resultTypes.toList ((Value.bool true).resultList fn.resultTypes.size) (s.fn H (ds++[])).results []:=by
  intro b sp hd
  rw[List.append_nil,yg,FD]
  simp only[Value.resultList]
  exact trodAll_mk1 (shut_bool FE _)
 have qU:∀sp:Nat→Bool,DataW.TrodVars enc P W' sp s.vars (s.fn H (ds++[])).vars []:=by
  intro sp
  rw[List.append_nil,yg,wo];rfl
 refine⟨ds,[],before,[],before,[],Cp,gQ _ _ _,nZ _ mA,qU _,World.keptBut_mono (fun p hp=>⟨hp,?_⟩) (hg (fun p=>p∈before)),fun _=>?_⟩
 ·exact Or.inr (by simpa using hp)
 ·refine⟨fun j t r hj hr=>?_,_,_,([]++before)++[],⟨[]++before,[],trodAll_append (nZ _ (fun _ _=>rfl)) (gQ _ _ _),qU _,rfl,?_,?_⟩,?_⟩
  ·rw[FD]at hj hr
   cases j with
   | zero=>simp[Value.resultList]at hj hr;subst hj;subst hr;exact okWide_bool_mk FE _
   | succ j=>simp at hj
  ·intro b off hp
   have B9:MemPlace.cell b off∈before:=by simpa using hp
   have hb:b<W.heap.size:=Cp.lt _ B9
   rw[nj hold hb]
   exact B5 b off B9
  ·intro ha;cases ha
  ·intro p hp _
   simpa using hp
end
end Go.Rmp
end

section
namespace Go.Rmp
def kQ (R:ai)(H:aa):List Rd→Prop
 | []=>True
 | r :: l=>(au R r.g=true→ae R H r.op=some (R r.d,H))∧kQ R H l
theorem eH {R:ai}{H:aa}:∀(l:List Rd),kQ R H l→cE R H l
 | [],_=>fun r h=>by cases h
 | x :: l,h=>fun r hr=>by
  rcases List.mem_cons.1 hr with rfl|hr
  ·exact h.1
  ·exact eH l h.2 r hr
theorem qV (R:ai)(d:Nat)(v:T):ay R (some d) v=iZ R d v:=rfl
theorem qW (R:ai)(v:T):ay R none v=R:=rfl
theorem qX (R:ai)(d:Nat)(v:T)(t:Nat):iZ R d v t=if t=d then v else R t:=rfl
theorem n6 (a:T)(l:List T):dk (a :: l) 0=a:=rfl
theorem zY (R:ai)(t:Nat):X.ev R (.r t)=R t:=rfl
theorem zZ (R:ai)(v:T):X.ev R (.c v)=v:=rfl
def qY (R:ai)(g:Gd)(s:List Rd):Bo→Prop
 | .eK _ c x y=>g=none∧s=[]∧c=.slice∧x.ev R=.sl .arg []∧y.ev R=.sl .nil []
 | _=>False
structure Du (E:Env)(R:ai)(H:aa)(x:X)(az:List X)(P:aa→Bool→Prop)(b n:Nat)(R0:ai)(ps:List Nat)(bf body:C)(M1 M:Out→aa→Prop):Prop where
 hf:x.ev R=.gV b
 hb:H[b]?=some (.loop .ready none n R0 ps bf body)
 hn:az.length=ps.length
 h1:W E (.code bf (fA R0 ps (az.map (X.ev R)))) H M1
 pT:∀o H',M1 o H'→(∃R1,o=.ex .normal R1)∧H'[b]?=some (.loop .ready none n R0 ps bf body)
 h2:∀R1 H1,M1 (.ex .normal R1) H1→W E (.code body R1) (H1.set b (.loop .busy none n R0 ps bf body)) M
 mI:∀o H',M o H'→H'[b]?=some (.loop .busy none n R0 ps bf body)
 h3:∀R' H',M (.ex .normal R') H'→P (H'.set b (.loop .ready none n R0 ps bf body)) true
 h4:∀e R' H',M (.ex e R') H'→e≠.normal→P (H'.set b (.loop .done (some e) n R0 ps bf body)) false
def qZ (R:ai)(H:aa)(b:Bo)(v:T)(H':aa):Prop:=∃n bytes t y bb len cs,b=.app n bytes false (.r t) y∧R t=.aP bb 0 len n∧H[bb]?=some (.cells cs)∧len*n=cs.length∧0<len ∧
 ae (iZ R t (.sl (.own H.length len) (dN cs 0 len n))) (H.set bb (.fz cs)++[.tok len]) b=some (v,H')
def ec (E:Env):List O→ai→aa→(ai→aa→Prop)→Prop
 | [],R,H,K=>K R H
 | ⟨d,.b b,g,s⟩ :: l,R,H,K=>match au R g with
  | false=>ec E l (ay R d av) H K
  | true=>match ae R H b with
   | some (v,H')=>kQ R H' s∧ec E l (ay R d v) H' K
   | none=>(qY R g s b∧∀t:Bool,ec E l (ay R d (.bool t)) H K) ∨
    (∃x bb bi es ix cur,b=.gL x∧x.ev R=.ptr bi 0∧H[bb]?=some (.cm es ix bi cur)∧∀t H',fD H bb bi es ix t H'→kQ R H' s∧ec E l (ay R d t) H' K) ∨
    ∃v H',qZ R H b v H'∧kQ R H' s∧ec E l (ay R d v) H' K
 | ⟨d,.call f az,g,s⟩ :: l,R,H,K=>match au R g with
  | false=>ec E l (ay R d av) H K
  | true=>∃M:Out→aa→Prop,W E (.call f (az.map (X.ev R))) H M∧∀v H',M (.val v) H'→kQ R H' s∧ec E l (ay R d v) H' K
 | ⟨d,.a6 x az,g,s⟩ :: l,R,H,K=>match au R g with
  | false=>ec E l (ay R d av) H K
  | true=>(∃(f:Nat) (cs:List T) (M:Out→aa→Prop),x.ev R=.fn f cs∧W E (.call f (az.map (X.ev R)++cs)) H M∧∀v H',M (.val v) H'→kQ R H' s∧ec E l (ay R d v) H' K) ∨
   ∃b n R0 ps bf body M1 M,Du E R H x az (fun H' t=>kQ R H' s∧ec E l (ay R d (.bool t)) H' K) b n R0 ps bf body M1 M
theorem cH {E:Env}{Q:Out→aa→Prop}:∀(l:List O) (R:ai) (H:aa),ec E l R H (fun R' H'=>Q (.ex .normal R') H')→W E (.ops l R) H Q
 | [],R,H,h=>.nil h
 | ⟨d,.b b,g,s⟩ :: l,R,H,h=>by
  simp only[ec]at h
  split at h
  ·rename_i hw;exact .no hw (cH l _ _ h)
  ·rename_i hw
   split at h
   ·rename_i v H' he;exact .op hw he (eH _ h.1) (cH l _ _ h.2)
   ·rcases h with h|⟨x,bb,bi,es,ix,cur,rfl,hx,hb,h⟩|⟨v,H',⟨n,bytes,t,y,bb,len,cs,rfl,ht,hb,hlen,h0,he⟩,h⟩
    ·cases b with
     | eK neg c x y =>
      obtain⟨⟨hg,hs,hc,hx,hy⟩,h⟩:=h
      subst hg
      exact .pS hs (fun t=>cH l _ _ (h t)) hx hy hc
     | _=>exact h.1.elim
    ·exact .gL hw hx hb (fun t H' hm=>eH _ (h t H' hm).1) fun t H' hm=>cH l _ _ (h t H' hm).2
    ·exact .B4 hw ht hb hlen h0 he (eH _ h.1) (cH l _ _ h.2)
 | ⟨d,.call f az,g,s⟩ :: l,R,H,h=>by
  simp only[ec]at h
  split at h
  ·rename_i hw;exact .no hw (cH l _ _ h)
  ·rename_i hw
   obtain⟨M,h1,h2⟩:=h
   exact .call M hw h1 (fun v H' hm=>eH _ (h2 v H' hm).1) (fun v H' hm=>cH l _ _ (h2 v H' hm).2)
 | ⟨d,.a6 x az,g,s⟩ :: l,R,H,h=>by
  simp only[ec]at h
  split at h
  ·rename_i hw;exact .no hw (cH l _ _ h)
  ·rename_i hw
   rcases h with⟨f,cs,M,hf,h1,h2⟩|⟨b,n,R0,ps,bf,body,M1,M,h⟩
   ·exact .a6 M hw hf h1 (fun v H' hm=>eH _ (h2 v H' hm).1) (fun v H' hm=>cH l _ _ (h2 v H' hm).2)
   ·exact .gV M1 M hw h.hf h.hb h.hn h.h1 h.pT h.h2 h.mI (fun R' H' hm=>eH _ (h.h3 R' H' hm).1) (fun R' H' hm=>cH l _ _ (h.h3 R' H' hm).2) (fun e R' H' hm he=>eH _ (h.h4 e R' H' hm he).1) (fun e R' H' hm he=>cH l _ _ (h.h4 e R' H' hm he).2)
def lX (K:ai→aa→Prop)(Q:Out→aa→Prop):Out→aa→Prop
 | .ex .normal R,H=>K R H
 | o,H=>Q o H
def fu (id:Nat)(Q:Out→aa→Prop):Out→aa→Prop
 | .ex (.exit i) R,H=>if i=id then Q (.ex .normal R) H else Q (.ex (.exit i) R) H
 | o,H=>Q o H
def gR (E:Env):C→ai→aa→(Out→aa→Prop)→Prop
 | .skip,R,H,Q=>Q (.ex .normal R) H
 | .ops l,R,H,Q=>ec E l R H fun R' H'=>Q (.ex .normal R') H'
 | .seq a b,R,H,Q=>gR E a R H (lX (fun R' H'=>gR E b R' H' Q) Q)
 | .cond x a b,R,H,Q=>match x.ev R with
  | .bool true=>gR E a R H Q
  | .bool false=>gR E b R H Q
  | _=>False
 | .block id a,R,H,Q=>gR E a R H (fu id Q)
 | .exit id,R,H,Q=>Q (.ex (.exit id) R) H
 | .ret,R,H,Q=>Q (.ex .ret R) H
 | .loop a,R,H,Q=>W E (.code (.loop a) R) H Q
 | .bo n x ps a b,R,H,Q=>W E (.code (.bo n x ps a b) R) H Q
theorem gy {E:Env}:∀(c:C) (R:ai) (H:aa) (Q:Out→aa→Prop),gR E c R H Q→W E (.code c R) H Q
 | .skip,R,H,Q,h=>.skip h
 | .ops l,R,H,Q,h=>.ze (cH l R H h)
 | .seq a b,R,H,Q,h=>.seq _ (gy a R H _ h) (fun R' H' hm=>gy b R' H' Q hm) (fun o H' hm hn=>by
  cases o with
  | ex e R'=>cases e with
   | normal=>exact absurd rfl (hn R')
   | exit id=>exact hm
   | ret=>exact hm
  | val v=>exact hm)
 | .cond x a b,R,H,Q,h=>by
  simp only[gR]at h
  split at h
  ·rename_i hx;exact .cond true hx (gy a R H Q h)
  ·rename_i hx;exact .cond false hx (gy b R H Q h)
  ·exact h.elim
 | .block id a,R,H,Q,h=>.block _ (gy a R H _ h) (fun R' H' hm=>by simpa[fu]using hm) (fun o H' hm hn=>by
  cases o with
  | ex e R'=>cases e with
   | normal=>exact hm
   | exit i =>
    simp only[fu]at hm
    split at hm
    ·rename_i e;subst e;exact absurd rfl (hn R')
    ·exact hm
   | ret=>exact hm
  | val v=>exact hm)
 | .exit id,R,H,Q,h=>.exit h
 | .ret,R,H,Q,h=>.ret h
 | .loop a,R,H,Q,h=>h
 | .bo n x ps a b,R,H,Q,h=>h
section
variable (E:Env) (R:ai) (H:aa) (K:ai→aa→Prop) (Q:Out→aa→Prop) (l:List O) (d:Option Nat) (s:List Rd)
def Cq:T→Bool
 | .bool c=>c
 | _=>false
def Cr:T→Bool
 | .bool c=>!c
 | _=>false
def jN (b:Bo)(g:Gd)(e:Option (T×aa)):Prop:=match e with
 | some (v,H')=>kQ R H' s∧ec E l (ay R d v) H' K
 | none=>(qY R g s b∧∀t:Bool,ec E l (ay R d (.bool t)) H K) ∨
  (∃x bb bi es ix cur,b=.gL x∧x.ev R=.ptr bi 0∧H[bb]?=some (.cm es ix bi cur)∧∀t H',fD H bb bi es ix t H'→kQ R H' s∧ec E l (ay R d t) H' K) ∨
  ∃v H',qZ R H b v H'∧kQ R H' s∧ec E l (ay R d v) H' K
def vo (b:Bo)(g:Gd)(w:Bool):Prop:=match w with
 | false=>ec E l (ay R d av) H K
 | true=>jN E R H K l d s b g (ae R H b)
def z0 (v:T)(H':aa):Prop:=kQ R H' s∧ec E l (ay R d v) H' K
def n7 (f:Nat)(az:List T):Prop:=∃M:Out→aa→Prop,W E (.call f az) H M∧∀v H',M (.val v) H'→z0 E R K l d s v H'
def vq (f:Nat)(az:List X)(w:Bool):Prop:=match w with
 | false=>ec E l (ay R d av) H K
 | true=>n7 E R H K l d s f (az.map (X.ev R))
def wq (R:ai)(H:aa):Prop:=Q (.ex .normal R) H
def wu (b:C)(R:ai)(H:aa):Prop:=gR E b R H Q
def re (a b:C)(t:T):Prop:=match t with
 | .bool true=>gR E a R H Q
 | .bool false=>gR E b R H Q
 | _=>False
theorem wv:ec E [] R H K=K R H:=rfl
theorem FF (b:Bo):ec E (⟨d,.b b,none,s⟩ :: l) R H K=jN E R H K l d s b none (ae R H b):=rfl
theorem FG (b:Bo)(g:Nat×Bool):ec E (⟨d,.b b,some g,s⟩ :: l) R H K=vo E R H K l d s b (some g) (au R (some g)):=by simp only[ec,vo];rfl
theorem FH (f:Nat)(az:List X):ec E (⟨d,.call f az,none,s⟩ :: l) R H K=n7 E R H K l d s f (az.map (X.ev R)):=rfl
theorem z1 (f:Nat)(az:List X)(g:Nat×Bool):ec E (⟨d,.call f az,some g,s⟩ :: l) R H K=vq E R H K l d s f az (au R (some g)):=by simp only[ec,vq];rfl
theorem z2 {g:Nat×Bool}{x:X}{az:List X}(hg:au R (some g)=false):ec E (⟨d,.a6 x az,some g,s⟩ :: l) R H K=ec E l (ay R d av) H K:=by
 simp only[ec,hg]
theorem rf (neg:Bool)(c:tw)(x y:X):jN E R H K l d s (.eK neg c x y) none none=((s=[]∧c=.slice∧x.ev R=.sl .arg []∧y.ev R=.sl .nil [])∧∀t:Bool,ec E l (ay R d (.bool t)) H K):=by simp only[jN,qY,qZ,true_and,reduceCtorEq,false_and,exists_false,or_false]
theorem rh (b:Bo)(g:Gd)(v:T)(H':aa):jN E R H K l d s b g (some (v,H'))=(kQ R H' s∧ec E l (ay R d v) H' K):=rfl
theorem wx (b:Bo)(g:Gd):vo E R H K l d s b g true=jN E R H K l d s b g (ae R H b):=rfl
theorem wy (b:Bo)(g:Gd):vo E R H K l d s b g false=ec E l (ay R d av) H K:=rfl
theorem rl (f:Nat)(az:List X):vq E R H K l d s f az true=n7 E R H K l d s f (az.map (X.ev R)):=rfl
theorem rm (f:Nat)(az:List X):vq E R H K l d s f az false=ec E l (ay R d av) H K:=rfl
theorem aS {f:Nat}{az:List T}(M:Out→aa→Prop)(h1:W E (.call f az) H M)(h2:∀v H',M (.val v) H'→kQ R H' s∧ec E l (ay R d v) H' K):n7 E R H K l d s f az:=⟨M,h1,h2⟩
theorem rn:gR E .skip R H Q=Q (.ex .normal R) H:=rfl
theorem wz:gR E (.ops l) R H Q=ec E l R H (wq Q):=rfl
theorem n8:wq Q R H=Q (.ex .normal R) H:=rfl
theorem wA (a b:C):gR E (.seq a b) R H Q=gR E a R H (lX (wu E Q b) Q):=rfl
theorem rp (x:X)(a b:C):gR E (.cond x a b) R H Q=re E R H Q a b (x.ev R):=rfl
theorem n9 (id:Nat)(a:C):gR E (.block id a) R H Q=gR E a R H (fu id Q):=rfl
theorem rq (id:Nat):gR E (.exit id) R H Q=Q (.ex (.exit id) R) H:=rfl
theorem wB:gR E .ret R H Q=Q (.ex .ret R) H:=rfl
theorem ru (a:C):gR E (.loop a) R H Q=W E (.code (.loop a) R) H Q:=rfl
theorem oa (n:Nat)(x:X)(ps:List Nat)(a b:C):gR E (.bo n x ps a b) R H Q=W E (.code (.bo n x ps a b) R) H Q:=rfl
theorem ob (b:C):wu E Q b R H=gR E b R H Q:=rfl
theorem rv (a b:C):re E R H Q a b (.bool true)=gR E a R H Q:=rfl
theorem ry (a b:C):re E R H Q a b (.bool false)=gR E b R H Q:=rfl
theorem rz (R:ai)(H:aa):lX K Q (.ex .normal R) H=K R H:=rfl
theorem rA (R:ai)(H:aa):lX K Q (.ex .ret R) H=Q (.ex .ret R) H:=rfl
theorem rB (id:Nat)(R:ai)(H:aa):lX K Q (.ex (.exit id) R) H=Q (.ex (.exit id) R) H:=rfl
theorem wC (id:Nat)(R:ai)(H:aa):fu id Q (.ex .normal R) H=Q (.ex .normal R) H:=rfl
theorem wD (id:Nat)(R:ai)(H:aa):fu id Q (.ex .ret R) H=Q (.ex .ret R) H:=rfl
theorem wE (id i:Nat)(R:ai)(H:aa):fu id Q (.ex (.exit i) R) H=if i=id then Q (.ex .normal R) H else Q (.ex (.exit i) R) H:=rfl
theorem rC (t:Nat):au R (some (t,true))=Cq (R t):=by cases h:R t<;>simp[au,Cq,h]
theorem rD (t:Nat):au R (some (t,false))=Cr (R t):=by cases h:R t<;>simp[au,Cr,h]
theorem wF (c:Bool):Cq (.bool c)=c:=rfl
theorem wG:Cq av=false:=rfl
theorem wH:Cr av=false:=rfl
theorem wI (c:Bool):Cr (.bool c)=!c:=rfl
end
def nk (res:List Rs)(Q:Out→aa→Prop):Out→aa→Prop
 | .ex .normal R,H | .ex .ret R,H=>match fC R H res with
  | some v=>Q (.val v) H
  | none=>False
 | _,_=>False
theorem W.tt {E:Env}{f:Nat}{fn:Fn}{az:List T}{H:aa}{Q:Out→aa→Prop}(hf:E.fn f=some fn)(hr:fn.body.eg=false)(hn:az.length=fn.np)(h:gR E fn.body (dk az) H (nk fn.res Q)):W E (.call f az) H Q:=by
 refine .fn _ hf hr hn (gy _ _ _ _ h) fun o H' hm=>?_
 cases o with
 | ex e R =>
  cases e with
  | normal=>simp only[nk]at hm;split at hm;exact⟨R,.inl rfl,_,by assumption,hm⟩;exact hm.elim
  | exit id=>exact hm.elim
  | ret=>simp only[nk]at hm;split at hm;exact⟨R,.inr rfl,_,by assumption,hm⟩;exact hm.elim
 | val v=>exact hm.elim
theorem W.use {E:Env}{j:J}{H:aa}{Q Q':Out→aa→Prop}(h:W E j H Q)(hq:∀o H',Q o H'→Q' o H'):W E j H Q':=by
 induction h generalizing Q' with
 | skip h=>exact .skip (hq _ _ h)
 | exit h=>exact .exit (hq _ _ h)
 | ret h=>exact .ret (hq _ _ h)
 | ze _ ih=>exact .ze (ih hq)
 | seq M h1 h2 h3 _ iX=>exact .seq M h1 (fun R' H' hm=>iX R' H' hm hq) (fun o H' hm hn=>hq _ _ (h3 o H' hm hn))
 | cond t hx _ ih=>exact .cond t hx (ih hq)
 | block M h1 h2 h3 _=>exact .block M h1 (fun R' H' hm=>hq _ _ (h2 R' H' hm)) (fun o H' hm hn=>hq _ _ (h3 o H' hm hn))
 | loop M h1 h2 h3 _ iX=>exact .loop M h1 (fun R' H' hm=>iX R' H' hm hq) (fun o H' hm hn=>hq _ _ (h3 o H' hm hn))
 | nil h=>exact .nil (hq _ _ h)
 | no hg _ ih=>exact .no hg (ih hq)
 | op hg he hs _ ih=>exact .op hg he hs (ih hq)
 | call M hg h1 hs _ _ iX=>exact .call M hg h1 hs (fun v H' hm=>iX v H' hm hq)
 | a6 M hg hf h1 hs _ _ iX=>exact .a6 M hg hf h1 hs (fun v H' hm=>iX v H' hm hq)
 | gV M1 M hg hf hb hn h1 pT h2 mI B1 _ B2 _ _ _ Cn Co=>exact .gV M1 M hg hf hb hn h1 pT h2 mI B1 (fun R' H' hm=>Cn R' H' hm hq) B2 (fun e R' H' hm he=>Co e R' H' hm he hq)
 | pS hs h hx hy hc ih=>exact .pS hs (fun b=>ih b hq) hx hy hc
 | bo M hx h1 h2 _=>exact .bo M hx h1 (fun v H' hm=>let ⟨st,pe,a,b,c,d⟩:=h2 v H' hm;⟨st,pe,a,b,c,hq _ _ d⟩)
 | B3 M hf hn h1 h2 _=>exact .B3 M hf hn h1 (fun o H' hm=>let ⟨R',bs,a,b,c,d,v,e,f⟩:=h2 o H' hm;⟨R',bs,a,b,c,d,v,e,hq _ _ f⟩)
 | fn M hf hr hn h1 h2 _=>exact .fn M hf hr hn h1 (fun o H' hm=>let ⟨R',a,v,b,c⟩:=h2 o H' hm;⟨R',a,v,b,hq _ _ c⟩)
 | xl i M hi h1 h2 _=>exact .xl i M hi h1 (fun v H' hm=>hq _ _ (h2 v H' hm))
 | pF M h1 h2 _=>exact .pF M h1 (fun o H' hm=>let ⟨v,b,cs,a,c,d,e⟩:=h2 o H' hm;⟨v,b,cs,a,c,d,hq _ _ e⟩)
 | gL hg hx hb hs _ ih=>exact .gL hg hx hb hs fun t H' hm=>ih t H' hm hq
 | shr M h1 h2 _=>exact .shr M h1 (fun o H' hm=>let ⟨v,b,cs,k,a,c,d,e⟩:=h2 o H' hm;⟨v,b,cs,k,a,c,d,hq _ _ e⟩)
 | xm i hi hb _ ih=>exact .xm i hi hb (ih hq)
 | CA hk hb _ ih=>exact .CA hk hb (ih hq)
 | vw hl hv _ ih=>exact .vw hl hv (ih hq)
 | B4 hg ht hb hlen h0 he hs _ ih=>exact .B4 hg ht hb hlen h0 he hs (ih hq)
 | g9 h=>exact .g9 (E.mono _ _ _ _ _ h fun t H' hm=>hq _ _ hm)
def vt (v:T)(H:aa):Out→aa→Prop:=fun o H'=>o=.val v∧H'=H
theorem oc (v v':T)(H H':aa):vt v H (.val v') H'=(v'=v∧H'=H):=by simp[vt]
theorem od (a b:T)(l:List T):dk (a :: b :: l) 1=b:=rfl
theorem oe (a b c:T)(l:List T):dk (a :: b :: c :: l) 2=c:=rfl
theorem og (a b c d:T)(l:List T):dk (a :: b :: c :: d :: l) 3=d:=rfl
theorem oh (a b c d e:T)(l:List T):dk (a :: b :: c :: d :: e :: l) 4=e:=rfl
def vu (v:T)(H:aa):Out→aa→Prop:=fun o H'=>o=.val v∧∃l,H'=H++l
theorem lY (v v':T)(H l:aa):vu v H (.val v') (H++l)=(v'=v):=by simp[vu]
theorem jO (v v':T)(H:aa):vu v H (.val v') H=(v'=v):=by
 simp only[vu,Out.val.injEq,eq_iff_iff]
 exact⟨fun h=>h.1,fun h=>⟨h,[],by simp⟩⟩
theorem jP (k:IntKind)(n:Nat):aQ (.int k (n:Int))=some n:=by simp[aQ]
theorem wrap64 {n:Int}(h:-9223372036854775808≤n∧n<9223372036854775808):IntKind.i64.wrap n=n:=by
 unfold IntKind.wrap
 simp only[IntKind.signed,IntKind.bits]
 simp
 omega
theorem z3 (v:T):valOf false [v]=some v:=rfl
theorem z4 (cs:List T):valOf true cs=some (.agg cs):=rfl
theorem Cs (a b:Nat):decide ((a:Int)<(b:Int))=decide (a<b):=by simp
theorem Ct (a b:Nat):decide ((a:Int)≤(b:Int))=decide (a≤b):=by simp
theorem Cu (a b:Nat):((a:Int)==(b:Int))=decide (a=b):=by rw[Bool.eq_iff_iff];simp;omega
theorem Dv (a b:Nat):((a:Int) != (b:Int))=!decide (a=b):=by rw[Bool.eq_iff_iff];simp;omega
theorem rE:∀(a:List UInt8),Op.bytesLess a a=false
 | []=>rfl
 | x :: a=>by simp[Op.bytesLess,rE a]
theorem lZ:∀(a b c:List UInt8),Op.bytesLess a b=true→Op.bytesLess b c=true→Op.bytesLess a c=true
 | _,[],_,h,_=>by cases ‹List UInt8›<;>simp[Op.bytesLess]at h
 | _,_ :: _,[],_,h=>by simp[Op.bytesLess]at h
 | [],_ :: _,_ :: _,_,_=>rfl
 | x :: a,y :: b,z :: c,h1,h2=>by
  simp only[Op.bytesLess,Bool.or_eq_true,decide_eq_true_eq,Bool.and_eq_true,beq_iff_eq]at h1 h2 ⊢
  rcases h1 with h1|⟨rfl,h1⟩
  ·rcases h2 with h2|⟨rfl,h2⟩
   ·exact .inl (UInt8.lt_trans h1 h2)
   ·exact .inl h1
  ·rcases h2 with h2|⟨rfl,h2⟩
   ·exact .inl h2
   ·exact .inr ⟨rfl,lZ a b c h1 h2⟩
theorem rF:∀(a b:List UInt8),Op.bytesLess a b=false→Op.bytesLess b a=false→a=b
 | [],[],_,_=>rfl
 | [],_ :: _,h,_=>by simp[Op.bytesLess]at h
 | _ :: _,[],_,h=>by simp[Op.bytesLess]at h
 | x :: a,y :: b,h1,h2=>by
  simp only[Op.bytesLess,Bool.or_eq_false_iff,decide_eq_false_iff_not,Bool.and_eq_false_iff,beq_eq_false_iff_ne]at h1 h2
  have e:x=y:=by
   have a1:=h1.1;have a2:=h2.1
   exact UInt8.le_antisymm (UInt8.not_lt.1 a2) (UInt8.not_lt.1 a1)
  subst e
  rw[rF a b (h1.2.resolve_left (fun h=>h rfl)) (h2.2.resolve_left (fun h=>h rfl))]
theorem toList_inj {a b:ByteArray}(h:a.toList=b.toList):a=b:=by
 have e:∀c:ByteArray,c.toList=c.data.toList:=fun c=>Go.ByteArray.toList_eq c
 rw[e,e]at h
 cases a;cases b
 simp only[ByteArray.mk.injEq]
 exact Array.toList_inj.1 h
theorem cA (a b:ByteArray):di a b=decide (a=b):=by
 unfold di
 rw[Bool.eq_iff_iff]
 simp only[beq_iff_eq,decide_eq_true_eq]
 exact⟨toList_inj,fun h=>by rw[h]⟩
theorem rG (a:ByteArray):strLt a a=false:=rE _
theorem pA {a b c:ByteArray}(h1:strLt a b=true)(h2:strLt b c=true):strLt a c=true:=lZ _ _ _ h1 h2
theorem yh {a b:ByteArray}(h1:strLt a b=false)(h2:strLt b a=false):a=b:=toList_inj (rF _ _ h1 h2)
theorem lt_asymm {a b:ByteArray}(h:strLt a b=true):strLt b a=false:=by
 cases e:strLt b a with
 | false=>rfl
 | true=>have:=pA h e;rw[rG]at this;cases this
theorem not_le (a b:ByteArray):(!(strLt b a||di b a))=strLt a b:=by
 cases h:strLt a b with
 | true =>
  have h1:=lt_asymm h
  have h2:di b a=false:=by rw[cA];simp;rintro rfl;rw[rG]at h;cases h
  simp[h1,h2]
 | false =>
  cases h1:strLt b a with
  | true=>simp
  | false=>have:=yh h h1;subst this;simp[cA]
def yj (n off:Nat):Option B→Option (List T)
 | some (.cells cs)=>if off+n≤cs.length then some ((cs.drop off).take n)else none
 | some (.fz cs)=>if off+n≤cs.length then some ((cs.drop off).take n)else none
 | _=>none
theorem oj (H:aa)(n b off:Nat):gD H n (.ptr b off)=yj n off H[b]?:=by
 simp only[gD,yj];rfl
theorem l0 (H:aa)(n:Nat)(cs:List T):gD H n (.cC cs)=if n≤cs.length then some (cs.take n)else none:=rfl
theorem rH (n off:Nat)(cs:List T):yj n off (some (.cells cs))=if off+n≤cs.length then some ((cs.drop off).take n)else none:=rfl
def yk (H:aa)(b:Nat)(vs:List T)(off:Nat):Option B→Option aa
 | some (.cells cs)=>if off+vs.length≤cs.length then some (H.set b (.cells (cs.take off++vs++cs.drop (off+vs.length))))else none
 | _=>none
theorem om (H:aa)(vs:List T)(b off:Nat):tC H vs (.ptr b off)=yk H b vs off H[b]?:=by
 simp only[tC,yk];rfl
theorem rI (H:aa)(b:Nat)(vs:List T)(off:Nat)(cs:List T):yk H b vs off (some (.cells cs))=if off+vs.length≤cs.length then some (H.set b (.cells (cs.take off++vs++cs.drop (off+vs.length))))else none:=rfl
theorem oo (off b o:Nat):kb off (.ptr b o)=some (.ptr b (o+off)):=rfl
def rJ (id:Nat)(P:ai→aa→Prop)(Q:Out→aa→Prop):Out→aa→Prop
 | .ex (.exit i) R,H=>if i=id then P R H else Q (.ex (.exit i) R) H
 | o,H=>Q o H
theorem z5 (id:Nat)(P:ai→aa→Prop)(Q:Out→aa→Prop)(R:ai)(H:aa):rJ id P Q (.ex .normal R) H=Q (.ex .normal R) H:=rfl
theorem z6 (id:Nat)(P:ai→aa→Prop)(Q:Out→aa→Prop)(R:ai)(H:aa):rJ id P Q (.ex .ret R) H=Q (.ex .ret R) H:=rfl
theorem z7 (id i:Nat)(P:ai→aa→Prop)(Q:Out→aa→Prop)(R:ai)(H:aa):rJ id P Q (.ex (.exit i) R) H=if i=id then P R H else Q (.ex (.exit i) R) H:=rfl
def iJ {α β:Type}[DecidableEq α](es:List (α×β))(k:α):Option β:=(es.find? fun e=>decide (k=e.1)).map (·.2)
def vz {α β:Type}[DecidableEq α](es:List (α×β))(k:α)(v:β):List (α×β) :=
 match es.findIdx? fun e=>decide (k=e.1)with
 | some i=>es.set i (k,v)
 | none=>es++[(k,v)]
section
variable {α β:Type} [DecidableEq α]
theorem nq (e:α×β)(es:List (α×β))(k:α):iJ (e :: es) k=if k=e.1 then some e.2 else iJ es k:=by
 unfold iJ;rw[List.find?_cons];by_cases h:k=e.1<;>simp[h]
theorem pB (es:List (α×β))(k:α):iJ es k=match es.findIdx? fun e=>decide (k=e.1)with
  | some i=>(es[i]?).map (·.2)
  | none=>none:=by
 induction es with
 | nil=>rfl
 | cons e es ih =>
  rw[nq,List.findIdx?_cons]
  by_cases h:k=e.1
  ·simp[h]
  ·simp only[h,if_false,decide_false,Bool.false_eq_true,ih]
   cases List.findIdx? (fun e=>decide (k=e.1)) es<;>simp
theorem rK {es:List (α×β)}{k:α}{i:Nat}(h:(es.findIdx? fun e=>decide (k=e.1))=some i):∃v,es[i]?=some (k,v):=by
 rw[List.findIdx?_eq_some_iff_getElem]at h
 obtain⟨hi,h,-⟩:=h
 refine⟨es[i].2,?_⟩
 rw[List.getElem?_eq_getElem hi]
 simp only[decide_eq_true_eq]at h
 rw[h]
end
def fv {α:Type}(ek:α→T)(es:List (α×T)):List (T×T):=es.map fun e=>(ek e.1,e.2)
structure l3 {α:Type}[DecidableEq α](kt:KT)(ek:α→T):Prop where
 has:∀a,(ek a).dr kt=true
 eq:∀a b,dj (ek a) (ek b)=some (decide (a=b))
section
variable {α:Type} [DecidableEq α] {kt:KT} {ek:α→T}
theorem nr (ho:l3 kt ek)(k:α):∀es:List (α×T),bl (ek k) (fv ek es)=some (es.findIdx? fun e=>decide (k=e.1))
 | []=>rfl
 | e :: es=>by
  have ih:=nr ho k es
  simp only[fv]at ih ⊢
  simp only[List.map_cons,bl,ho.eq,List.findIdx?_cons]
  cases h:decide (k=e.1)
  ·simp[ih]
  ·simp
def l4 (o:Option T)(z:T)(ok:Bool):T:=match o with
 | some v=>if ok then .bg [v,.bool true]else v
 | none=>if ok then .bg [z,.bool false]else z
def l5 (kt:KT)(z:T)(ok:Bool)(H:aa)(mb:Option B)(k:T):Option (T×aa):=match mb with
 | some (.map es)=>if k.dr kt then match bl k es with
  | some (some i)=>match es[i]? with
   | some e=>some (if ok then .bg [e.2,.bool true]else e.2,H)
   | none=>none
  | some none=>some (if ok then .bg [z,.bool false]else z,H)
  | none=>none else none
 | some (.cm es _ _ _)=>if k.dr kt then match bl k es with
  | some (some i)=>match es[i]? with
   | some e=>some (if ok then .bg [e.2,.bool true]else e.2,H)
   | none=>none
  | some none=>some (if ok then .bg [z,.bool false]else z,H)
  | none=>none else none
 | _=>none
def yl (kt:KT)(z:T)(ok:Bool)(H:aa)(m k:T):Option (T×aa):=match m with
 | .map b=>l5 kt z ok H H[b]? k
 | .b6=>if k.dr kt then some (if ok then .bg [z,.bool false]else z,H)else none
 | _=>none
theorem rL (R:ai)(H:aa)(kt:KT)(z:T)(ok:Bool)(m k:X):ae R H (.gW kt z ok m k)=yl kt z ok H (m.ev R) (k.ev R):=by
 unfold yl l5
 simp only[ae]
 cases h1:(k.ev R).dr kt
 ·simp only[Bool.false_eq_true,if_false]
  cases m.ev R with
  | map b=>simp only;split<;>rfl
  | _=>rfl
 ·simp only[if_true]
  cases m.ev R with
  | map b =>
   simp only[cn]
   cases H[b]? with
   | none=>rfl
   | some x=>cases x<;>rfl
  | b6=>simp only[cn,bl]
  | _=>rfl
theorem l6 (kt:KT)(z:T)(ok:Bool)(H:aa)(b:Nat)(k:T):yl kt z ok H (.map b) k=l5 kt z ok H H[b]? k:=rfl
theorem rM (ho:l3 kt ek)(z:T)(ok:Bool)(H:aa)(es:List (α×T))(s:α):l5 kt z ok H (some (.map (fv ek es))) (ek s)=some (l4 (iJ es s) z ok,H):=by
 simp only[l5,ho.has,nr ho,if_true,pB]
 cases h:List.findIdx? (fun e=>decide (s=e.1)) es with
 | none=>cases ok<;>rfl
 | some i =>
  obtain⟨v,hv⟩:=rK h
  have:(fv ek es)[i]?=some (ek s,v):=by simp[fv,hv]
  simp only[this,hv,l4,Option.map_some]
def l7 (kt:KT)(H:aa)(b:Nat)(mb:Option B)(k v:T):Option (T×aa):=match mb with
 | some (.map es)=>if k.dr kt then match bl k es with
  | some (some i)=>some (av,H.set b (.map (es.set i (k,v))))
  | some none=>some (av,H.set b (.map (es++[(k,v)])))
  | none=>none else none
 | _=>none
def ym (kt:KT)(H:aa)(m k v:T):Option (T×aa):=match m with
 | .map b=>l7 kt H b H[b]? k v
 | _=>none
theorem rN (R:ai)(H:aa)(kt:KT)(m k v:X):ae R H (.oH kt m k v)=ym kt H (m.ev R) (k.ev R) (v.ev R):=by
 unfold ym l7
 simp only[ae]
 cases m.ev R with
 | map b =>
  simp only
  cases h1:(k.ev R).dr kt
  ·simp only[Bool.false_eq_true,if_false];split<;>rfl
  ·simp only[if_true]
   cases H[b]? with
   | none=>rfl
   | some x=>cases x<;>rfl
 | _=>rfl
def yn (kt:KT)(H:aa)(b:Nat)(mb:Option B)(k:T):Option (T×aa):=match mb with
 | some (.map es)=>if k.dr kt then match bl k es with
  | some (some i)=>some (.bg [],H.set b (.map (es.eraseIdx i)))
  | some none=>some (.bg [],H)
  | none=>none else none
 | _=>none
def yo (kt:KT)(H:aa)(m k:T):Option (T×aa):=match m with
 | .map b=>yn kt H b H[b]? k
 | _=>none
theorem rO (R:ai)(H:aa)(kt:KT)(m k:X):ae R H (.del kt m k)=yo kt H (m.ev R) (k.ev R):=by
 unfold yo yn
 simp only[ae]
 cases m.ev R with
 | map b =>
  simp only
  cases h1:(k.ev R).dr kt
  ·simp only[Bool.false_eq_true,if_false];split<;>rfl
  ·simp only[if_true]
   cases H[b]? with
   | none=>rfl
   | some x=>cases x<;>rfl
 | _=>rfl
theorem l8 (kt:KT)(H:aa)(b:Nat)(k:T):yo kt H (.map b) k=yn kt H b H[b]? k:=rfl
def yp (H:aa)(b:Nat):Option B→Option (T×aa)
 | some (.map es)=>some (.ptr H.length 0,H.set b (.cm es (List.range es.length) H.length none)++[.pE b])
 | some (.cm es _ _ _)=>some (.ptr H.length 0,H.set b (.cm es (List.range es.length) H.length none)++[.pE b])
 | _=>none
def yq (H:aa):T→Option (T×aa)
 | .map b=>yp H b H[b]?
 | _=>none
theorem rP (R:ai)(H:aa)(x:X):ae R H (.vU x)=yq H (x.ev R):=by
 simp only[ae]
 cases x.ev R with
 | map b =>
  simp only[cn,yq]
  cases H[b]? with
  | none=>rfl
  | some y=>cases y<;>rfl
 | _=>rfl
theorem l9 (H:aa)(b:Nat):yq H (.map b)=yp H b H[b]?:=rfl
theorem rQ (H:aa)(b:Nat)(es:List (T×T)):yp H b (some (.map es))=some (.ptr H.length 0,H.set b (.cm es (List.range es.length) H.length none)++[.pE b]):=rfl
theorem rR (R:ai)(H:aa)(x:X):ae R H (.gL x)=none:=rfl
def vA (H:aa)(bi:Nat):Option B→Option (T×aa)
 | some (.cm es _ vX (some c))=>if vX=bi then(es[c]?).map fun e=>(.bg [e.1,e.2],H)else none
 | _=>none
def vB (H:aa)(bi:Nat):Option B→Option (T×aa)
 | some (.pE b)=>vA H bi H[b]?
 | _=>none
def yr (H:aa):T→Option (T×aa)
 | .ptr bi 0=>vB H bi H[bi]?
 | _=>none
theorem rS (R:ai)(H:aa)(x:X):ae R H (.vV x)=yr H (x.ev R):=by
 simp only[ae]
 cases x.ev R with
 | ptr bi o =>
  cases o with
  | zero =>
   simp only[yr]
   cases H[bi]? with
   | none=>rfl
   | some y=>cases y with
    | pE b =>
     simp only[vB]
     cases H[b]? with
     | none=>rfl
     | some z=>cases z with
      | cm es ix vX cur=>cases cur<;>rfl
      | _=>rfl
    | _=>rfl
  | succ _=>rfl
 | _=>rfl
theorem ma (H:aa)(bi:Nat):yr H (.ptr bi 0)=vB H bi H[bi]?:=rfl
theorem rT (H:aa)(bi b:Nat):vB H bi (some (.pE b))=vA H bi H[b]?:=rfl
theorem rU (H:aa)(bi:Nat)(es:List (T×T))(ix:List Nat)(c:Nat):vA H bi (some (.cm es ix bi (some c)))=(es[c]?).map fun e=>(.bg [e.1,e.2],H):=by simp only[vA,if_true]
def z8 (H:aa)(b off len n n':Nat)(z:List T):Option B→Option (T×aa)
 | some (.cells cs)=>if n'=n∧z.length=n∧off+len*n≤cs.length then some (av,H.set b (.cells (cs.take off++(List.replicate len z).flatten++cs.drop (off+len*n))))else none
 | _=>none
def yu (H:aa)(n:Nat)(z:List T):T→Option (T×aa)
 | .aP b off len n'=>z8 H b off len n n' z H[b]?
 | _=>none
theorem rV (R:ai)(H:aa)(n:Nat)(z:List T)(x:X):ae R H (.zb n z x)=yu H n z (x.ev R):=by
 simp only[ae]
 cases x.ev R with
 | aP b off len n' =>
  simp only[yu]
  cases H[b]? with
  | none=>rfl
  | some y=>cases y<;>rfl
 | _=>rfl
theorem mc (H:aa)(n:Nat)(z:List T)(b off len n':Nat):yu H n z (.aP b off len n')=z8 H b off len n n' z H[b]?:=rfl
theorem me (kt:KT)(H:aa)(b:Nat)(k v:T):ym kt H (.map b) k v=l7 kt H b H[b]? k v:=rfl
theorem rW (ho:l3 kt ek)(H:aa)(b:Nat)(es:List (α×T))(s:α)(v:T):l7 kt H b (some (.map (fv ek es))) (ek s) v=some (av,H.set b (.map (fv ek (vz es s v)))):=by
 simp only[l7,ho.has,nr ho,if_true,vz]
 cases h:List.findIdx? (fun e=>decide (s=e.1)) es with
 | none=>simp[fv]
 | some i=>simp[fv]
end
theorem z9:l3 (.sc .str) T.str:=⟨fun _=>rfl,fun a b=>by simp only[dj,dy,cA]⟩
def kU (n:Nat):T:=.int .u64 n
theorem Aa:l3 (.sc .int) kU:=⟨fun _=>rfl,fun a b=>by simp only[kU,dj,dy,if_true,Cu]⟩
theorem rX (z:T)(ok:Bool)(H:aa)(es:List (ByteArray×T))(s:ByteArray):l5 (.sc .str) z ok H (some (.map (fv T.str es))) (.str s)=some (l4 (iJ es s) z ok,H):=rM z9 z ok H es s
theorem rY (z:T)(ok:Bool)(H:aa)(es:List (Nat×T))(s:Nat):l5 (.sc .int) z ok H (some (.map (fv kU es))) (.int .u64 s)=some (l4 (iJ es s) z ok,H):=rM Aa z ok H es s
theorem rZ (H:aa)(b:Nat)(es:List (ByteArray×T))(s:ByteArray)(v:T):l7 (.sc .str) H b (some (.map (fv T.str es))) (.str s) v=some (av,H.set b (.map (fv T.str (vz es s v)))):=rW z9 H b es s v
theorem r4 (H:aa)(b:Nat)(es:List (Nat×T))(s:Nat)(v:T):l7 (.sc .int) H b (some (.map (fv kU es))) (.int .u64 s) v=some (av,H.set b (.map (fv kU (vz es s v)))):=rW Aa H b es s v
theorem mg (v z:T):l4 (some v) z false=v:=rfl
theorem mh (z:T):l4 none z false=z:=rfl
theorem jQ (v z:T):l4 (some v) z true=.bg [v,.bool true]:=rfl
theorem jR (z:T):l4 none z true=.bg [z,.bool false]:=rfl
end Go.Rmp
end
