/- Part of a proof of a law of this seat: the machine of plain values, its simulation, and the contracts of the functions that the law reaches. Conditions: none beyond the given row. -/
import Derived.Test.YtaplookbfhicoaaGreatDoorM0
import Derived.Laws.IdiomStrings
import Derived.RangeFuncRecord
import Derived.RangeFuncIn
import Derived.OpenShut
import Derived.RowKit3
import Derived.ChangeSame
import Derived.ReadAgain
import Derived.ChangeCalls
import Derived.Deep.Frames
import Derived.Laws.Strings
open Int renaming reduceLT → q6, reduceLE → q7, reduceBEq → q8, reduceBNe → q9, reduceEq → y1
open Nat renaming reduceAdd → y2, reduceLeDiff → y3, reduceLT → y4, reduceEqDiff → y5
set_option linter.unusedSimpArgs false
set_option linter.unusedVariables false
set_option linter.unnecessarySimpa false
set_option maxHeartbeats 4000000
section
namespace Go.Rmp
section
variable {P:Program} {w0 w:World} {g:Ctx} {H H':aa} {R:ah} {ρ:Operand→Value} {t:T}
theorem u7 {op:BinOp}{ty:TypeId}{ox oy:Operand}{x y:X}{b:Bo}(hc:qL P op ty x y=some b)(h:SR w0 g H w)(hx:VR g w (x.ev R) (ρ ox))(hy:VR g w (y.ev R) (ρ oy))(he:ae R H b=some (t,H')) :
  tX P w0 g H w (do pure (Next.value (←(do eqGuard op ty ox oy (ρ ox) (ρ oy);binOp op ty (ρ ox) (ρ oy))))) t H':=by
 refine aG.fy ?_
 unfold qL at hc
 cases hu:P.underlying ty with
 | none=>simp[hu]at hc
 | some d =>
  rw[hu]at hc
  have heq:∀n,isEq op=some n→op=if n then .neq else .eql:=by
   intro n hn;cases op<;>simp[isEq]at hn<;>subst hn<;>rfl
  have bin:b=.bin op x y→aG P w0 g H w (do eqGuard op ty ox oy (ρ ox) (ρ oy);binOp op ty (ρ ox) (ρ oy)) t H':=by
   rintro rfl
   simp only[ae,Option.map_eq_some_iff,Prod.mk.injEq]at he
   obtain⟨t',h1,rfl,rfl⟩:=he
   exact um h hx hy h1
  have ref:(∃n c,isEq op=some n∧cls d=some c∧b=.gV n c x y)→aG P w0 g H w (do eqGuard op ty ox oy (ρ ox) (ρ oy);binOp op ty (ρ ox) (ρ oy)) t H':=by
   rintro⟨n,c,h1,h2,rfl⟩
   simp only[ae,Option.map_eq_some_iff,Prod.mk.injEq]at he
   obtain⟨r,h3,rfl,rfl⟩:=he
   rw[heq n h1]
   exact uq hu (by cases d<;>simp[cls]at h2<;>subst h2<;>rfl) h hx hy h3
  have gA:(match isEq op,cls d with|some n,some c=>some (Bo.gV n c x y)|_,_=>none)=some b→(∃n c,isEq op=some n∧cls d=some c∧b=.gV n c x y):=by
   intro hh
   cases h1:isEq op with
   | none=>simp[h1]at hh
   | some n =>
    cases h2:cls d with
    | none=>simp[h1,h2]at hh
    | some c=>simp[h1,h2]at hh;exact⟨n,c,rfl,rfl,hh.symm⟩
  cases d with
  | int k=>simp at hc;exact bin hc.symm
  | string=>simp at hc;exact bin hc.symm
  | bool =>
   simp only[Option.map_eq_some_iff]at hc
   obtain⟨n,h1,rfl⟩:=hc
   simp only[ae]at he
   rw[heq n h1]
   generalize x.ev R=tx at hx he
   generalize y.ev R=x0 at hy he
   cases tx<;>cases x0<;>simp at he
   obtain⟨rfl,rfl⟩:=he
   exact uo hu h hx hy
  | struct fs =>
   cases h1:isEq op with
   | none=>simp[h1]at hc
   | some n =>
    cases h2:kinds P fs.toList with
    | none=>simp[h1,h2]at hc
    | some ks =>
     simp only[h1,h2]at hc
     split at hc
     ·rename_i ay
      simp only[Bool.and_eq_true,Bool.not_eq_true']at ay
      simp at hc;subst hc
      simp only[ae]at he
      rw[heq n h1]
      generalize x.ev R=tx at hx he
      generalize y.ev R=x0 at hy he
      cases tx<;>cases x0<;>(try simp only[reduceCtorEq]at he)
      split at he
      ·rename_i hk
       simp only[Option.map_eq_some_iff,Prod.mk.injEq]at he
       obtain⟨r,h3,rfl,rfl⟩:=he
       exact ur hu ay.1.1 ay.1.2 ay.2 h hx hy hk h3
      ·cases he
     ·cases hc
  | pointer _=>exact ref (gA hc)
  | slice _=>exact ref (gA hc)
  | map _ _=>exact ref (gA hc)
  | func _ _ _=>exact ref (gA hc)
  | invalid=>exact ref (gA hc)
  | float _=>exact ref (gA hc)
  | complex _=>exact ref (gA hc)
  | unsafePointer=>exact ref (gA hc)
  | array _ _=>exact ref (gA hc)
  | chan _ _=>exact ref (gA hc)
  | interface _=>exact ref (gA hc)
  | tuple _=>exact ref (gA hc)
  | named _ _=>exact ref (gA hc)
theorem qN {ty:TypeId}{v:Value}{x:X}{b:Bo}(hc:jI P ty x=some b)(h:SR w0 g H w)(hx:VR g w (x.ev R) v)(he:ae R H b=some (t,H')):tX P w0 g H w (do pure (Next.value (←Instr.loadAt ty v))) t H':=by
 refine aG.fy ?_
 unfold jI at hc
 cases hu:P.underlying ty with
 | none=>simp[hu]at hc
 | some d =>
  cases hi:P.info? ty with
  | none=>simp[hu,hi]at hc
  | some i =>
   simp only[hu,hi,Option.some.injEq]at hc
   subst hc
   simp only[ae]at he
   cases hl:gM H (if bz d then i.size else 1) (x.ev R)with
   | none=>simp[hl]at he
   | some cs =>
    simp only[hl,Option.map_eq_some_iff,Prod.mk.injEq]at he
    obtain⟨t',h1,rfl,rfl⟩:=he
    exact xA hu hi rfl (fun e=>by rw[if_pos e]) h hx hl h1
theorem jK {ty:TypeId}{v:Value}{x:X}{f:Nat}{ad:Bool}{b:Bo}(hc:fx P ty x f ad=some b)(h:SR w0 g H w)(hx:VR g w (x.ev R) v)(he:ae R H b=some (t,H')) :
  aG P w0 g H w (if ad then Instr.fieldAt ty v f else Instr.field ty v f) t H':=by
 unfold fx at hc
 cases hu:P.underlying ty with
 | none=>simp[hu]at hc
 | some d =>
  cases d<;>simp only[hu]at hc<;>(try (cases hc;done))
  rename_i fs
  cases hf:fs[f]? with
  | none=>simp[hf]at hc
  | some fl =>
   simp only[hf]at hc
   cases hd:P.underlying fl.type with
   | none=>simp[hd]at hc
   | some d =>
    cases hi:P.info? fl.type with
    | none=>simp[hd,hi]at hc
    | some i =>
     simp only[hd,hi]at hc
     cases ad with
     | true =>
      simp only[if_true]at hc
      split at hc
      ·cases hc
      ·rename_i hz
       simp at hc;subst hc
       simp only[ae]at he
       simp only[Option.map_eq_some_iff,Prod.mk.injEq]at he
       obtain⟨t',h1,rfl,rfl⟩:=he
       exact uy hu hf hi hz h hx h1
     | false =>
      simp only[Bool.false_eq_true,if_false,Option.some.injEq]at hc
      subst hc
      simp only[ae]at he
      generalize x.ev R=tx at hx he
      cases tx<;>(try simp only[reduceCtorEq]at he)
      rename_i cs
      split at he
      ·rename_i hle
       simp only[Option.map_eq_some_iff,Prod.mk.injEq]at he
       obtain⟨t',h1,rfl,rfl⟩:=he
       exact uz hu hf hd hi rfl h hx hle h1
      ·cases he
theorem n9 {ty:TypeId}{v vi:Value}{x i:X}{ad:Bool}{b:Bo}(hc:nj P ty x i ad=some b)(h:SR w0 g H w)(hx:VR g w (x.ev R) v)(hi:VR g w (i.ev R) vi)(he:ae R H b=some (t,H')) :
  aG P w0 g H w (if ad then Instr.indexAt ty v vi else Instr.index ty v vi) t H':=by
 unfold nj at hc
 cases hu:P.underlying ty with
 | none=>simp[hu]at hc
 | some d =>
  cases d<;>cases ad<;>simp only[hu]at hc<;>(try (cases hc;done))
  ·-- string
   simp at hc;subst hc
   simp only[ae]at he
   generalize x.ev R=tx at hx he
   cases tx<;>(try simp only[reduceCtorEq]at he)
   cases hn:aR (i.ev R)with
   | none=>simp[hn]at he
   | some n =>
    simp only[hn,Option.map_eq_some_iff,Prod.mk.injEq]at he
    obtain⟨c,h1,rfl,rfl⟩:=he
    exact uC hu h hx hi hn h1
  ·-- slice
   rename_i e
   cases g6:P.info? e with
   | none=>simp[g6]at hc
   | some ei =>
    simp[g6]at hc;subst hc
    simp only[ae]at he
    simp only[Option.bind_eq_some_iff,Option.map_eq_some_iff,Prod.mk.injEq]at he
    obtain⟨n,h1,t',h2,rfl,rfl⟩:=he
    exact uA hu g6 h hx hi h1 h2
  ·-- u9 value
   rename_i n e
   cases g6:P.info? e with
   | none=>simp[g6]at hc
   | some ei =>
    cases x7:P.underlying e with
    | none=>simp[g6,x7]at hc
    | some d =>
     simp[g6,x7]at hc;subst hc
     simp only[ae]at he
     generalize x.ev R=tx at hx he
     cases tx<;>(try simp only[reduceCtorEq]at he)
     cases hn:aR (i.ev R)with
     | none=>simp[hn]at he
     | some m =>
      simp only[hn]at he
      split at he
      ·rename_i cN
       simp only[Option.map_eq_some_iff,Prod.mk.injEq]at he
       obtain⟨t',h1,rfl,rfl⟩:=he
       exact uD hu x7 g6 rfl h hx hi hn cN.1 cN.2 h1
      ·cases he
  ·-- u9 address
   rename_i n e
   cases g6:P.info? e with
   | none=>simp[g6]at hc
   | some ei =>
    simp[g6]at hc;subst hc
    simp only[ae]at he
    generalize x.ev R=tx at hx he
    cases tx<;>(try simp only[reduceCtorEq]at he)
    cases hn:aR (i.ev R)with
    | none=>simp[hn]at he
    | some m =>
     simp only[hn]at he
     split at he
     ·rename_i aA
      simp at he
      obtain⟨rfl,rfl⟩:=he
      exact uB hu g6 h hx hi hn aA
     ·cases he
theorem cQ {x:Option Operand}{y:Option X}(h:dU x=some y)(hv:RV g w R ρ x.toList):OV g w R y (x.map ρ):=by
 cases x with
 | none=>simp[dU]at h;subst h;trivial
 | some x =>
  simp only[dU,Option.map_eq_some_iff]at h
  obtain⟨y',h1,rfl⟩:=h
  exact hv x (by simp) y' h1
theorem vd {ty:TypeId}{v:Value}{x:X}{lo hi mx:Option X}{dJ en qO:Option Value}{b:Bo}(hc:pn P ty x lo hi mx=some b)(h:SR w0 g H w)(hx:VR g w (x.ev R) v)(uG:OV g w R lo dJ)(ve:OV g w R hi en)(wE:OV g w R mx qO)
  (he:ae R H b=some (t,H')):tX P w0 g H w (do pure (Next.value (←Instr.sliceAt ty v dJ en qO))) t H':=by
 refine aG.fy ?_
 unfold pn at hc
 split at hc
 ·rename_i e Gn hu
  cases g6:P.info? e with
  | none=>simp[g6]at hc
  | some ei =>
   simp only[g6,Option.map_some,Option.some.injEq]at hc
   subst hc
   cases dJ with
   | some _=>exact uG.elim
   | none=>cases qO with
    | some _=>exact wE.elim
    | none=>cases en with
     | none=>exact ve.elim
     | some vh =>
      simp only[ae]at he
      generalize x.ev R=tx at hx he
      split at he
      ·rename_i bb off len n' hh CB
       split at he
       ·rename_i cN
        obtain⟨rfl,h1,h2,h3⟩:=cN
        simp only[Option.some.injEq,Prod.mk.injEq]at he
        obtain⟨rfl,rfl⟩:=he
        exact uH hu g6 h hx ve CB h1 h2 h3
       ·cases he
      ·cases he
 ·cases hc
theorem pr {ty:TypeId}{v:Value}{x:X}{lo hi mx:Option X}{dJ en qO:Option Value}{b:Bo}(hc:gx P ty x lo hi mx=some b)(h:SR w0 g H w)(hx:VR g w (x.ev R) v)(uG:OV g w R lo dJ)(ve:OV g w R hi en)(wE:OV g w R mx qO)
  (he:ae R H b=some (t,H')):tX P w0 g H w (do pure (Next.value (←Instr.sliceAt ty v dJ en qO))) t H':=by
 refine aG.fy ?_
 unfold gx at hc
 cases hu:P.underlying ty with
 | none=>simp[hu]at hc
 | some d =>
  cases d<;>simp only[hu]at hc<;>(try (cases hc;done))
  ·-- string
   cases mx with
   | some _=>simp at hc
   | none =>
    cases qO with
    | some _=>exact wE.elim
    | none =>
     simp at hc;subst hc
     simp only[ae]at he
     generalize x.ev R=tx at hx he
     cases tx<;>(try simp only[reduceCtorEq]at he)
     rename_i s
     cases hl:cU R 0 lo with
     | none=>simp[hl]at he
     | some l =>
      cases hh:cU R s.size hi with
      | none=>simp[hl,hh]at he
      | some r =>
       simp only[hl,hh]at he
       split at he
       ·rename_i cN
        simp at he
        obtain⟨rfl,rfl⟩:=he
        exact uE hu h hx uG ve hl hh cN.1 cN.2
       ·cases he
  ·-- slice
   rename_i e
   cases g6:P.info? e with
   | none=>simp[g6]at hc
   | some ei =>
    simp only[g6]at hc
    split at hc
    ·cases hc
    ·rename_i EV
     simp at hc;subst hc
     simp only[ae]at he
     generalize x.ev R=tx at hx he
     cases tx<;>(try simp only[reduceCtorEq]at he)
     ·rename_i k es
      cases hl:cU R 0 lo with
      | none=>simp[hl]at he
      | some l =>
       cases hh:cU R es.length hi with
       | none=>simp[hl,hh]at he
       | some r =>
        simp only[hl,hh]at he
        cases mx with
        | none =>
         cases qO with
         | some _=>exact wE.elim
         | none =>
          simp only at he
          split at he
          ·rename_i cN
           simp at he
           obtain⟨rfl,rfl⟩:=he
           exact uF hu g6 h hx uG ve hl hh cN.1 cN.2.1 cN.2.2
          ·cases he
        | some m =>
         cases qO with
         | none=>exact wE.elim
         | some vm =>
          cases hi with
          | none=>simp at EV
          | some hi =>
           cases en with
           | none=>exact ve.elim
           | some vh =>
            simp only at he
            cases hm:aR (m.ev R)with
            | none=>simp[hm]at he
            | some m' =>
             simp only[hm]at he
             split at he
             ·rename_i cN
              simp only[Option.some.injEq,Prod.mk.injEq]at he
              obtain⟨rfl,rfl⟩:=he
              exact qq hu g6 h hx uG ve wE hl hh hm cN.1 cN.2.1 cN.2.2.1 cN.2.2.2
             ·cases he
     ·rename_i bb off len n'
      cases hl:cU R 0 lo with
      | none=>simp[hl]at he
      | some l =>
       cases hh:cU R len hi with
       | none=>simp[hl,hh]at he
       | some r =>
        simp only[hl,hh]at he
        cases mx with
        | some _=>simp at he
        | none =>
         cases qO with
         | some _=>exact wE.elim
         | none =>
          simp only at he
          split at he
          ·rename_i cN
           obtain⟨rfl,h1,h2⟩:=cN
           simp only[Option.some.injEq,Prod.mk.injEq]at he
           obtain⟨rfl,rfl⟩:=he
           exact qt hu g6 h hx uG ve hl hh h1 h2
          ·cases he
     ·rename_i bb off len n' cc
      cases hl:cU R 0 lo with
      | none=>simp[hl]at he
      | some l =>
       cases hh:cU R len hi with
       | none=>simp[hl,hh]at he
       | some r =>
        simp only[hl,hh]at he
        cases mx with
        | some _=>simp at he
        | none =>
         cases qO with
         | some _=>exact wE.elim
         | none =>
          simp only at he
          split at he
          ·rename_i cN
           obtain⟨rfl,h1,h2⟩:=cN
           simp only[Option.some.injEq,Prod.mk.injEq]at he
           obtain⟨rfl,rfl⟩:=he
           exact qu hu g6 h hx uG ve hl hh h1 h2
          ·cases he
theorem vg {src dst e:TypeId}{s:ByteArray}(hs:P.underlying src=some .string)(hd:P.underlying dst=some (.slice e))(he:P.underlying e=some (.int .u8))(h:SR w0 g H w) :
  aG P w0 g H w (convert src dst (.string s)) (.sl .arg (s.data.toList.map fun c=>[.int .u8 c.toNat])) H:=by
 have aK:=run_bytes_of_string w src dst e s hs hd he
 have pX:=grownCap_ge w s.size 0 e
 generalize grownCap w s.size 0 e=cap at aK pX
 have gO:(s.data.toList.map fun c=>[T.int .u8 c.toNat]).flatten=s.data.toList.map fun c=>T.int .u8 c.toNat:=by
  generalize s.data.toList=l
  induction l with
  | nil=>rfl
  | cons c l ih=>simp only[List.map_cons,List.flatten_cons,ih];rfl
 have hlen:(s.data.toList.map fun c=>[T.int .u8 c.toNat]).length=s.size:=by rw[List.length_map,Array.length_toList];rfl
 obtain⟨le,sr,fr,cG⟩:=h.zI (c:=bytesRow s cap) (ty:=e) (fr:=((bytesRow s cap).size,(bytesRow s cap).size+1)) (Tr.drew w) rfl
 refine⟨_,_,_,aK,le,sr,?_,fr⟩
 have:=VR.gp (g:=g.row w.heap.size fun _=>.cG) (w:=w.drew.alloc (.cells (bytesRow s cap) e ((bytesRow s cap).size,(bytesRow s cap).size+1))) (k:=.arg) (es:=s.data.toList.map fun c=>[T.int .u8 c.toNat]) (r:=w.heap.size) (o:=0) (cap:=cap) (n:=1)
  (vs:=s.data.toList.map fun c=>Value.int .u8 c.toNat) (by intro c hc;obtain⟨b,_,rfl⟩:=List.mem_map.1 hc;rfl) (by
   rw[gO]
   refine⟨by simp,fun i t v a b=>?_⟩
   rw[List.getElem?_map]at a b
   cases hc:s.data.toList[i]? with
   | none=>rw[hc]at a;cases a
   | some c=>rw[hc]at a b;cases a;cases b;exact .int _ _)
  (by rw[gO];intro t ht;obtain⟨c,_,rfl⟩:=List.mem_map.1 ht;rfl) (by rw[hlen];exact pX) trivial (fun j v hj=>by
   rw[Nat.zero_add]
   refine cG j v ?_
   have aA:j<s.data.size:=by have:=(List.getElem?_eq_some_iff.1 hj).1;simpa using this
   unfold bytesRow
   rw[Array.getElem?_append_left (by simpa using aA)]
   rw[←hj];simp)
 rw[hlen]at this
 exact this
theorem iH (w:World)(a:Addr)(n r:Nat)(hr:r≠a.block):(w.freeze a n).heap[r]?=w.heap[r]?:=by
 unfold World.freeze
 split
 ·rfl
 ·simp only[Array.getElem?_modify]
  rw[if_neg (fun e=>hr e.symm)]
theorem pt (w:World)(a:Addr)(n:Nat){c:Array Value}{t:TypeId}(h:w.heap[a.block]?=some (.cells c t))(hn:n≠0):(w.freeze a n).heap[a.block]?=some (.cells c t (a.off,a.off+n)):=by
 unfold World.freeze
 rw[if_neg hn]
 simp only[Array.getElem?_modify,if_true,h]
 rfl
theorem lN (w:World)(a:Addr)(n r j:Nat){c:Array Value}{t:TypeId}(h:w.heap[a.block]?=some (.cells c t))(hn:n≠0):(w.freeze a n).cell? ⟨r,j,none⟩=w.cell? ⟨r,j,none⟩:=by
 unfold World.cell?
 by_cases hr:r=a.block
 ·subst hr
  simp only[pt w a n h hn,h]
 ·simp only[iH w a n r hr]
theorem vj {ty e:TypeId}{b len:Nat}{cs:List T}{v:Value}(hd:P.underlying ty=some (.slice e))(he:P.underlying e=some (.int .u8))(h:SR w0 g H w)(hv:VR g w (.aO b 0 len 1) v)(hb:H[b]?=some (.lit cs))(hl:len=cs.length) :
  aG P w0 g H w (convert ty ty v) (.sl .arg (cs.map fun c=>[c])) (H.set b .dead):=by
 obtain⟨r,q,dP,h1,h2,c,t0,h3,h4,h5,h6⟩:=h.dv b _ hb
 cases hv with
 | aO hφ hc hq =>
 rename_i r1 o1 q1 cap
 rw[hφ]at dP;cases dP
 have fu:b<H.length:=(List.getElem?_eq_some_iff.1 hb).1
 have aK:(convert ty ty (.slice (some ⟨r,0+0,none⟩) len cap)).run P w=.ok (.slice (some ⟨r,0+0,none⟩) len cap) (w.freeze ⟨r,q,none⟩ 1):=by
  have x8:w.shape? r=some (t0,c.size):=by unfold World.shape?;rw[h3]
  simp[convert,run_underlying hd,run_underlying he,markStringish,Sem.run,shape,freeze,x8,h4]
 have cK:∀r' j,(w.freeze ⟨r,q,none⟩ 1).cell? ⟨r',j,none⟩=w.cell? ⟨r',j,none⟩:=fun r' j=>lN w ⟨r,q,none⟩ 1 r' j h3 (by decide)
 have qP:∀r',r'≠r→(w.freeze ⟨r,q,none⟩ 1).heap[r']?=w.heap[r']?:=fun r' hr=>iH w ⟨r,q,none⟩ 1 r' hr
 have wF:(w.freeze ⟨r,q,none⟩ 1).heap.size=w.heap.size:=by unfold World.freeze;simp
 have le:Le g w g (w.freeze ⟨r,q,none⟩ 1):=⟨fun _ _ h=>h,fun _ _ h=>h,fun _ _ _ h=>h,fun r' o v _ hh=>by rw[cK];exact hh,rfl⟩
 have tr:Cd w (w.freeze ⟨r,q,none⟩ 1) (fun r' j=>r'=r∧j=q) (fun _=>False):=by
  refine⟨by rw[wF];exact Nat.le_refl _,fun r' j _ _=>cK r' j,fun r' j _ hh=>by rw[cK];exact hh,fun r' x _ hx hh=>?_,fun r' _ _ hn=>?_,by unfold World.freeze;rfl,by unfold World.freeze;rfl⟩
  ·by_cases hr:r'=r
   ·subst hr;rw[h3]at hh;cases hh;cases hx
   ·rw[qP r' hr];exact hh
  ·by_cases hr:r'=r
   ·exact absurd ⟨hr,rfl⟩ (hn q)
   ·exact qP r' hr
 refine⟨_,_,g,aK,le,?_,?_,⟨by simp,fun b' y a _ d=>⟨bB a (by rintro rfl;rw[hφ]at d;cases d),d⟩⟩⟩
 ·refine h.wx (fun b'=>b'=b) tr (fun r' j j0 b' _ cV hk=>?_) le (fun r' j hs=>.inr (.inl ⟨b,by rw[hs.1,hs.2];exact h1,rfl⟩)) (fun _ hm=>hm.elim) (fun r' o hr=>h.fresh r' o (by rwa[wF]at hr)) (fun b' x hx=>by rw[List.length_set];exact h.gZ b' x hx)
   (fun t e x hx=>by rw[List.length_set];exact h.cu t e x hx) (fun _ _ _=>rfl) (fun _ _ _ _=>⟨id,id⟩) (fun _ _ _ _=>rfl) (fun b' x hx=>?_)
  ·by_cases hr:r'=r
   ·subst hr
    by_cases hj:j=q
    ·subst hj
     rcases hk with hk|hk<;>rw[h1]at hk<;>cases hk
     exact absurd rfl cV
    ·rcases hk with hk|hk<;>rw[h2 j hj]at hk<;>cases hk
   ·unfold World.frozen?;rw[qP r' hr]
  ·rcases bf fu hx with⟨rfl,rfl⟩|⟨aF,er⟩
   ·right;trivial
   ·exact .inl ⟨aF,er⟩
 ·have gO:(cs.map fun c=>[c]).flatten=cs:=by
   clear h6 h5 hl hb
   induction cs with
   | nil=>rfl
   | cons c l ih=>simp only[List.map_cons,List.flatten_cons,ih];rfl
  have hlen:(cs.map fun c=>[c]).length=len:=by rw[List.length_map];exact hl.symm
  have:=VR.gp (g:=g) (w:=w.freeze ⟨r,q,none⟩ 1) (k:=.arg) (es:=cs.map fun c=>[c]) (r:=r) (o:=0+0) (cap:=cap) (n:=1) (vs:=c.toList)
   (by intro c hc;obtain⟨b,_,rfl⟩:=List.mem_map.1 hc;rfl) (by
    rw[gO]
    refine⟨by have:=Array.length_toList (xs:=c);omega,fun i t v a bb=>?_⟩
    obtain⟨_,v',k1,k2⟩:=h6 i t a
    rw[Array.getElem?_toList,k1]at bb;cases bb
    exact k2.mono le)
   (by rw[gO];intro t ht;obtain⟨i,hi⟩:=List.getElem?_of_mem ht;exact(h6 i t hi).1) (by rw[hlen];exact hc) trivial (fun j v hj=>by
    rw[Array.getElem?_toList]at hj
    have aA:j<c.size:=(Array.getElem?_eq_some_iff.1 hj).1
    refine⟨h2 (0+0+j) (by rw[←h4];omega),?_⟩
    rw[cK]
    unfold World.cell?
    simp only[h3,Nat.zero_add]
    exact hj)
  rw[hlen]at this
  exact this
theorem qQ {src dst:TypeId}{v:Value}{x:X}{b:Bo}(hc:jJ P src dst x=some b)(h:SR w0 g H w)(hx:VR g w (x.ev R) v)(he:ae R H b=some (t,H')):tX P w0 g H w (do pure (Next.value (←convert src dst v))) t H':=by
 refine aG.fy ?_
 unfold jJ at hc
 cases hs:P.underlying src with
 | none=>simp[hs]at hc
 | some ds =>
  cases hd:P.underlying dst with
  | none=>simp[hs,hd]at hc
  | some dd =>
   rw[hs,hd]at hc
   cases ds<;>cases dd<;>simp only[reduceCtorEq]at hc
   ·rename_i k0 k
    simp at hc;subst hc
    simp only[ae]at he
    generalize x.ev R=tx at hx he
    cases tx<;>simp at he
    obtain⟨rfl,rfl⟩:=he
    exact uu hs hd h hx
   ·rename_i e
    cases hu:P.underlying e with
    | none=>simp[hu]at hc
    | some d =>
     have z3:d=.int .u8∧b=.wo false x:=by
      rw[hu]at hc
      cases d with
      | int k=>cases k<;>simp at hc;exact⟨rfl,hc.symm⟩
      | _=>simp at hc
     obtain⟨rfl,rfl⟩:=z3
     simp only[ae]at he
     generalize x.ev R=tx at hx he
     cases hx<;>(try simp only[reduceCtorEq]at he)
     ·split at he
      ·cases he;exact vg hs hd hu h
      ·cases he
     ·rename_i b0 EW EX n0 r0 o0 q0 EY _ _ _
      cases hb:H[b0]? with
      | none=>simp[hb]at he
      | some y=>cases y<;>simp[hb]at he
   ·rename_i e
    cases hu:P.underlying e with
    | none=>simp[hu]at hc
    | some d =>
     have z3:d=.int .u8∧b=.p3 x:=by
      rw[hu]at hc
      cases d with
      | int k=>cases k<;>simp at hc;exact⟨rfl,hc.symm⟩
      | _=>simp at hc
     obtain⟨rfl,rfl⟩:=z3
     simp only[ae]at he
     cases e8:aI H 1 (x.ev R)with
     | none=>simp[e8]at he
     | some es =>
      have tQ:∀s,x.ev R≠.str s:=by
       intro s e;simp only[e]at he;split at he<;>cases he
      have wA:(bytesOf es).map (fun l=>(T.str ⟨l.toArray⟩,H))=some (t,H'):=by
       simp only[e8]at he
       generalize x.ev R=tx at he tQ
       cases tx<;>first|exact he|exact absurd rfl (tQ _)
      simp only[Option.map_eq_some_iff,Prod.mk.injEq]at wA
      obtain⟨l,h1,rfl,rfl⟩:=wA
      exact ux hs hu hd h hx e8 tQ h1
   ·rename_i e0 e
    split at hc
    ·rename_i CC
     have CC:src=dst:=by simpa using CC
     subst CC
     cases hu:P.underlying e with
     | none=>simp[hu]at hc
     | some d =>
      have z3:d=.int .u8∧b=.wo true x:=by
       rw[hu]at hc
       cases d with
       | int k=>cases k<;>simp at hc;exact⟨rfl,hc.symm⟩
       | _=>simp at hc
      obtain⟨rfl,rfl⟩:=z3
      simp only[ae]at he
      generalize x.ev R=tx at hx he
      cases tx<;>(try simp only[reduceCtorEq]at he)
      ·simp at he
      rename_i b0 off len n
      cases hb:H[b0]? with
      | none=>simp[hb]at he
      | some y =>
       cases y<;>simp only[hb,reduceCtorEq]at he
       split at he
       ·rename_i hh
        obtain⟨_,rfl,rfl,hl⟩:=hh
        cases he
        exact vj hd hu h hx hb hl
       ·cases he
    ·cases hc
end
section
variable {P:Program} {w0 w:World} {g:Ctx} {H H':aa} {R:ah} {ρ:Operand→Value} {t:T}
theorem cg {ty:TypeId}{z:List T}(h:zeroOf P ty=some z):∃i zv,P.info? ty=some i∧i.zero=some zv∧bN zv.cells.toList=some z:=by
 unfold zeroOf at h
 cases h1:P.info? ty with
 | none=>simp[h1]at h
 | some i =>
  simp only[h1]at h
  cases h2:i.zero with
  | none=>simp[h2]at h
  | some zv=>simp only[h2]at h;exact⟨i,zv,rfl,h2,h⟩
theorem nq {dq:List TypeId}{rt:TypeId}{mu:Bool}{as:List X}{vs:List Value}{b:Bo}(hc:eS P mu dq as=some b)(h:SR w0 g H w)(hv:ax g w (as.map (X.ev R)) vs)(he:ae R H b=some (t,H')) :
  aG P w0 g H w (Builtin.append_ dq.toArray rt vs.toArray) t H':=by
 unfold eS at hc
 split at hc
 ·rename_i sT xT x y
  cases vs with
  | nil=>have:=hv.1;simp at this
  | cons vx vs =>
   cases vs with
   | nil=>have:=hv.1;simp at this
   | cons vy vs =>
    cases vs with
    | cons _ _=>have:=hv.1;simp at this
    | nil =>
     have hx:VR g w (x.ev R) vx:=hv.head
     have hy:VR g w (y.ev R) vy:=hv.tail.head
     cases hs:P.underlying sT with
     | none=>simp[hs]at hc
     | some ds =>
      cases u0:P.underlying xT with
      | none=>cases ds<;>simp[hs,u0]at hc
      | some dx =>
       cases ds<;>simp only[hs,u0]at hc<;>(try (cases hc;done))
       rename_i e
       cases hi:P.info? e with
       | none=>simp[hi]at hc
       | some ei =>
        simp only[hi]at hc
        cases hz:ei.zero with
        | none=>simp[hz]at hc
        | some zv =>
         simp only[hz]at hc
         split at hc
         ·rename_i ay
          simp only[Bool.and_eq_true,beq_iff_eq,bne_iff_ne]at ay
          simp at hc;subst hc
          have E:gq P sT xT e ei zv ei.size ei.bytes:=⟨hs,hi,⟨dx,u0,fun k e=>by subst e;simp[qM]at ay⟩,rfl,hz,ay.1.2,rfl,ay.2⟩
          simp only[ae]at he
          cases jm:aI H ei.size (y.ev R)with
          | none=>simp[jm]at he
          | some new =>
           simp only[jm]at he
           cases mu with
           | true =>
            simp only[if_true]at he
            exact qD E h hx.y6 hy jm he
           | false =>
            simp only[Bool.false_eq_true,if_false]at he
            generalize x.ev R=tx at hx he
            cases tx<;>(try simp only[reduceCtorEq]at he)
            split at he
            ·rename_i dR
             exact uQ E h hx hy dR jm he
            ·cases he
         ·cases hc
 ·cases hc
theorem vn {dq:List TypeId}{rt:TypeId}{as:List X}{vs:List Value}{b:Bo}(hc:lL P dq as=some b)(h:SR w0 g H w)(hv:ax g w (as.map (X.ev R)) vs)(he:ae R H b=some (t,H')) :
  aG P w0 g H w (Builtin.append_ dq.toArray rt vs.toArray) t H':=by
 unfold lL at hc
 split at hc
 ·rename_i sT xT x k
  cases vs with
  | nil=>have:=hv.1;simp at this
  | cons vx vs =>
   cases vs with
   | nil=>have:=hv.1;simp at this
   | cons vk vs =>
    cases vs with
    | cons _ _=>have:=hv.1;simp at this
    | nil =>
     have hx:VR g w (x.ev R) vx:=hv.head
     have hk:VR g w (k.ev R) vk:=hv.tail.head
     cases hs:P.underlying sT with
     | none=>simp[hs]at hc
     | some ds =>
      cases u0:P.underlying xT with
      | none=>cases ds<;>simp[hs,u0]at hc
      | some dx =>
       cases ds<;>cases dx<;>simp only[hs,u0]at hc<;>(try (cases hc;done))
       rename_i e kn
       cases hi:P.info? e with
       | none=>simp[hi]at hc
       | some ei =>
        cases hz:zeroOf P e with
        | none=>simp[hi,hz]at hc
        | some z =>
         simp only[hi,hz]at hc
         split at hc
         ·rename_i ay
          simp only[bne_iff_ne,ne_eq]at ay
          simp only[Option.some.injEq]at hc;subst hc
          obtain⟨i,zv,h1,h2,h3⟩:=cg hz
          rw[hi]at h1;cases h1
          simp only[ae,Option.bind_eq_some_iff]at he
          obtain⟨kk,jD,he⟩:=he
          generalize k.ev R=tk at hk jD
          cases hk<;>simp only[aR]at jD<;>(try (cases jD;done))
          rename_i kq m
          split at jD
          ·rename_i hm
           simp only[Option.some.injEq]at jD
           subst jD
           have:=uZ (rt:=rt) (kq:=kq) hs u0 hi h2 h3 ay h hx he
           rw[Int.toNat_of_nonneg hm]at this
           exact this
          ·cases jD
         ·cases hc
 ·cases hc
theorem vo {f:FuncId}{n:Nat}{x y:X}{args:Array Operand}{ρ:Operand→Value}(mO:n8 P f=some n)(h:SR w0 g H w)(gi:ax g w ([x,y].map (X.ev R)) (args.toList.map ρ))(he:qa H n (x.ev R) (y.ev R)=some (t,H')) :
  tX P w0 g H w (callFunc f (args.map ρ)) t H':=by
 unfold n8 at mO
 cases hf:P.funcs[f]? with
 | none=>simp[hf]at mO
 | some fn =>
  simp only[hf]at mO
  cases hp:fn.params[0]? with
  | none=>simp[hp]at mO
  | some tS =>
   simp only[hp]at mO
   cases ht:P.underlying tS with
   | none=>simp[ht]at mO
   | some d =>
    cases d<;>simp only[ht]at mO<;>(try (cases mO;done))
    rename_i e
    cases hi:P.info? e with
    | none=>simp[hi]at mO
    | some ei =>
     simp only[hi]at mO
     split at mO
     ·rename_i hc
      simp only[Option.some.injEq]at mO;subst mO
      simp only[Bool.and_eq_true,wD,Option.isNone_iff_eq_none,beq_iff_eq,bne_iff_ne,ne_eq]at hc
      obtain⟨⟨⟨⟨c1,c2⟩,c3⟩,c4⟩,⟨c5,c6⟩,c7⟩:=hc
      have z4:Extern.find fn=some (Extern.SlicesOverlaps.overlaps fn.params fn.resultTypes):=by
       have r1:Extern.allGenericRows.lookup "slices.overlaps"=none:=by kernel_rfl
       have r2:Extern.allTypedRows.lookup "slices.overlaps"=some Extern.SlicesOverlaps.overlaps:=by kernel_rfl
       unfold Extern.find
       simp only[c4,c5,c6,c7,r1,r2,Option.map_none,Option.map_some]
       rfl
      cases ha:args.toList.map ρ with
      | nil=>rw[ha]at gi;have:=gi.1;simp at this
      | cons vx vs =>
       cases vs with
       | nil=>rw[ha]at gi;have:=gi.1;simp at this
       | cons vy vs =>
        cases vs with
        | cons _ _=>rw[ha]at gi;have:=gi.1;simp at this
        | nil =>
         rw[ha]at gi
         have hx:VR g w (x.ev R) vx:=gi.head
         have hy:VR g w (y.ev R) vy:=gi.tail.head
         have fU:args.map ρ=#[vx,vy]:=by apply Array.ext';simp[ha]
         obtain⟨v,w',g',h1,h2,h3,h4,h5⟩:=u1 (results:=fn.resultTypes) hp ht hi h hx hy he
         refine⟨.value v,v,w',g',?_,.inl rfl,h2,h3,h4,h5⟩
         rw[fU,run_callFunc_extern hf (by simpa using c1) (by simp[c2]) c3 z4,h1]
         rfl
     ·cases mO
theorem lO {bi:Builtin}{dq:List TypeId}{rt:TypeId}{cs:Array Bool}{mu:Bool}{as:List X}{vs:List Value}{b:Bo}(hc:dE P mu bi dq as=some b)(h:SR w0 g H w)(hv:ax g w (as.map (X.ev R)) vs)(he:ae R H b=some (t,H')) :
  tX P w0 g H w (builtin bi dq.toArray rt cs vs.toArray) t H':=by
 have two:∀(x y:X),as=[x,y]→∃vx vy,vs=[vx,vy]∧VR g w (x.ev R) vx∧VR g w (y.ev R) vy:=by
  rintro x y rfl
  cases vs with
  | nil=>have:=hv.1;simp at this
  | cons vx vs =>
   cases vs with
   | nil=>have:=hv.1;simp at this
   | cons vy vs =>
    cases vs with
    | cons _ _=>have:=hv.1;simp at this
    | nil=>exact⟨vx,vy,rfl,hv.head,hv.tail.head⟩
 unfold dE at hc
 split at hc
 ·cases hz:lL P dq as with
  | some b'=>rw[hz]at hc;simp only[Option.some.injEq]at hc;subst hc;exact(vn hz h hv he).fy
  | none=>rw[hz]at hc;exact(nq hc h hv he).fy
 ·-- cap
  rename_i ty x
  cases vs with
  | nil=>have:=hv.1;simp at this
  | cons vx vs =>
   cases vs with
   | cons _ _=>have:=hv.1;simp at this
   | nil =>
    have hx:VR g w (x.ev R) vx:=hv.head
    cases hu:P.underlying ty with
    | none=>simp[hu]at hc
    | some d =>
     cases d<;>simp only[hu]at hc<;>(try (cases hc;done))
     simp only[Option.some.injEq]at hc;subst hc
     simp only[ae]at he
     generalize x.ev R=tx at hx he
     cases tx<;>simp only[reduceCtorEq,Option.some.injEq,Prod.mk.injEq]at he
     obtain⟨rfl,rfl⟩:=he
     exact(uW hu h hx).fy
 ·-- copy
  rename_i dT sT x y
  obtain⟨vx,vy,rfl,hx,hy⟩:=two x y rfl
  cases hu:P.underlying dT with
  | none=>simp[hu]at hc
  | some d =>
   cases d<;>simp only[hu]at hc<;>(try (cases hc;done))
   rename_i e
   cases hi:P.info? e with
   | none=>simp[hi]at hc
   | some ei =>
    simp only[hi,Option.map_some,Option.some.injEq]at hc;subst hc
    simp only[ae]at he
    exact(uX hu hi h hx hy he).fy
 ·-- len
  rename_i ty x
  cases vs with
  | nil=>have:=hv.1;simp at this
  | cons vx vs =>
   cases vs with
   | cons _ _=>have:=hv.1;simp at this
   | nil =>
    have hx:VR g w (x.ev R) vx:=hv.head
    cases hu:P.underlying ty with
    | none=>simp[hu]at hc
    | some d =>
     have hl:∃k,Cg k d=true∧b=.len k x:=by
      cases d<;>simp[hu]at hc
      ·exact⟨.str,rfl,hc.symm⟩
      ·exact⟨.sl,rfl,hc.symm⟩
      ·exact⟨.map,rfl,hc.symm⟩
     obtain⟨k,hk,rfl⟩:=hl
     simp only[ae,Option.map_eq_some_iff,Prod.mk.injEq]at he
     obtain⟨n,h1,rfl,rfl⟩:=he
     exact(uv hu hk h hx h1).fy
 ·-- clear
  rename_i ty x
  cases vs with
  | nil=>have:=hv.1;simp at this
  | cons vx vs =>
   cases vs with
   | cons _ _=>have:=hv.1;simp at this
   | nil =>
    have hx:VR g w (x.ev R) vx:=hv.head
    cases hu:P.underlying ty with
    | none=>simp[hu]at hc
    | some d =>
     cases d<;>simp only[hu]at hc<;>(try (cases hc;done))
     rename_i e
     cases hi:P.info? e with
     | none=>simp[hi]at hc
     | some ei =>
      cases hz:zeroOf P e with
      | none=>simp[hi,hz]at hc
      | some z =>
       simp only[hi,hz,Option.some.injEq]at hc;subst hc
       obtain⟨i,zv,k1,k2,k3⟩:=cg hz
       rw[hi]at k1;cases k1
       simp only[ae]at he
       generalize x.ev R=tx at hx he
       cases tx<;>(try (simp only[reduceCtorEq]at he;done))
       rename_i bb off len n'
       simp only at he
       cases hb:H[bb]? with
       | none=>simp[hb]at he
       | some y =>
        cases y<;>simp only[hb]at he<;>(try (cases he;done))
        rename_i EZ
        split at he
        ·rename_i kH
         obtain⟨rfl,lJ,hle⟩:=kH
         simp only[Option.some.injEq,Prod.mk.injEq]at he
         obtain⟨rfl,rfl⟩:=he
         exact(u6 hu hi k2 k3 h hx hb lJ hle).fy
        ·cases he
 ·rename_i x y
  obtain⟨vx,vy,rfl,hx,hy⟩:=two x y rfl
  simp at hc;subst hc
  simp only[ae]at he
  generalize x.ev R=tx at hx he
  generalize y.ev R=x0 at hy he
  cases tx<;>cases x0<;>simp only[reduceCtorEq,Option.some.injEq,Prod.mk.injEq]at he
  obtain⟨rfl,rfl⟩:=he
  exact(xH h hx hy).fy
 ·rename_i x y
  obtain⟨vx,vy,rfl,hx,hy⟩:=two x y rfl
  simp at hc;subst hc
  simp only[ae]at he
  generalize x.ev R=tx at hx he
  generalize y.ev R=x0 at hy he
  cases tx<;>cases x0<;>simp only[reduceCtorEq,Option.some.injEq,Prod.mk.injEq]at he
  obtain⟨rfl,rfl⟩:=he
  exact(xI h hx hy).fy
 ·-- delete
  rename_i ty xt m k
  obtain⟨vm,vk,rfl,hm,hk⟩:=two m k rfl
  cases hu:P.underlying ty with
  | none=>simp[hu]at hc
  | some d =>
   cases d<;>simp only[hu]at hc<;>(try (cases hc;done))
   rename_i key elem
   cases dS:kJ P key with
   | none=>simp[dS]at hc
   | some kt =>
    simp only[dS]at hc
    split at hc
    ·rename_i kz
     simp at hc;subst hc
     simp only[ae]at he
     generalize m.ev R=tm at hm he
     cases tm<;>(try simp only[reduceCtorEq]at he)
     rename_i bb
     split at he
     ·rename_i m6
      cases hb:H[bb]? with
      | none=>simp[hb]at he
      | some z =>
       cases z<;>simp only[hb]at he<;>(try (cases he;done))
       rename_i es
       cases hr:bg (k.ev R) es with
       | none=>simp[hr]at he
       | some r =>
        have:=uM (rt:=rt) (xt:=xt) hu kz h hm hk m6 hb hr
        cases r with
        | none=>simp only[hr,Option.some.injEq,Prod.mk.injEq]at he;obtain⟨rfl,rfl⟩:=he;exact this.fy
        | some i=>simp only[hr,Option.some.injEq,Prod.mk.injEq]at he;obtain⟨rfl,rfl⟩:=he;exact this.fy
     ·cases he
    ·cases hc
 ·cases hc
theorem oa {ty:TypeId}{m k:X}{e:Nat}{kt:KT}{z:T}(h:nk P ty m k=some (e,kt,z)):∃key ei zv,P.underlying ty=some (.map key e)∧P.info? e=some ei∧ei.zero=some zv∧fq zv=some z∧ft P key kt=true:=by
 unfold nk at h
 cases hu:P.underlying ty with
 | none=>simp[hu]at h
 | some d =>
  cases d<;>simp only[hu]at h<;>(try (cases h;done))
  rename_i key e'
  cases h1:kJ P key with
  | none=>simp[h1]at h
  | some Gp =>
   cases h2:P.info? e' with
   | none=>simp[h1,h2]at h
   | some ei =>
    simp only[h1,h2]at h
    cases h3:ei.zero with
    | none=>simp[h3]at h
    | some zv =>
     simp only[h3]at h
     cases h4:fq zv with
     | none=>simp[h4]at h
     | some z' =>
      simp only[h4]at h
      split at h
      ·rename_i kz
       simp at h
       obtain⟨rfl,rfl,rfl⟩:=h
       exact⟨key,ei,zv,rfl,h2,h3,h4,kz⟩
      ·cases h
theorem ob {ty:TypeId}{m k v:X}{vm vk vv:Value}{e:Nat}{kt:KT}{z:T}(hc:nk P ty m k=some (e,kt,z))(h:SR w0 g H w)(hm:VR g w (m.ev R) vm)(hk:VR g w (k.ev R) vk)(hv:VR g w (v.ev R) vv)(he:ae R H (.wq kt m k v)=some (t,H')) :
  tX P w0 g H w (do Instr.mapUpdate ty vm vk vv;pure Next.skip) t H':=by
 obtain⟨key,ei,zv,hu,hi,hz,jg,kz⟩:=oa hc
 simp only[ae]at he
 generalize m.ev R=tm at hm he
 cases tm<;>(try simp only[reduceCtorEq]at he)
 rename_i bb
 split at he
 ·rename_i m6
  cases hb:H[bb]? with
  | none=>simp[hb]at he
  | some y =>
   cases y<;>simp only[hb]at he<;>(try (cases he;done))
   rename_i es
   cases hr:bg (k.ev R) es with
   | none=>simp[hr]at he
   | some r =>
    obtain⟨w',g',h1,h2,h3,h4⟩:=uL hu kz h hm hk hv m6 hb hr
    cases r with
    | none=>simp only[hr,Option.some.injEq,Prod.mk.injEq]at he;obtain⟨rfl,rfl⟩:=he;exact⟨.skip,undef,w',g',by simp[h1],.inr ⟨rfl,rfl⟩,h2,h3,da,h4⟩
    | some i=>simp only[hr,Option.some.injEq,Prod.mk.injEq]at he;obtain⟨rfl,rfl⟩:=he;exact⟨.skip,undef,w',g',by simp[h1],.inr ⟨rfl,rfl⟩,h2,h3,da,h4⟩
 ·cases he
theorem vq {ty:TypeId}{m k:X}{vm vk:Value}{e:Nat}{kt:KT}{z:T}{ok:Bool}(hc:nk P ty m k=some (e,kt,z))(h:SR w0 g H w)(hm:VR g w (m.ev R) vm)(hk:VR g w (k.ev R) vk)(he:ae R H (.p4 kt z ok m k)=some (t,H')) :
  aG P w0 g H w (Instr.lookup ty vm vk ok) t H':=by
 obtain⟨key,ei,zv,hu,hi,hz,jg,kz⟩:=oa hc
 simp only[ae]at he
 split at he
 ·rename_i m6
  cases e8:ct H (m.ev R)with
  | none=>simp[e8]at he
  | some es =>
   simp only[e8]at he
   cases hr:bg (k.ev R) es with
   | none=>simp[hr]at he
   | some r =>
    cases r with
    | none =>
     simp only[hr,Option.some.injEq,Prod.mk.injEq]at he
     obtain⟨rfl,rfl⟩:=he
     exact nY hu hi hz jg kz h hm hk m6 e8 hr rfl
    | some i =>
     simp only[hr]at he
     cases hx:es[i]? with
     | none=>simp[hx]at he
     | some x =>
      simp only[hx,Option.some.injEq,Prod.mk.injEq]at he
      obtain⟨rfl,rfl⟩:=he
      exact nY hu hi hz jg kz h hm hk m6 e8 hr (by simp[hx])
 ·cases he
theorem pw {ty:TypeId}{ps:List (Nat×X)}{pv:List (Nat×Value)}{b:Bo}(hc:gy P ty ps=some b)(h:SR w0 g H w)(hv:PV g w R ps pv)(he:ae R H b=some (t,H')):aG P w0 g H w (Instr.build ty pv.toArray) t H':=by
 unfold gy at hc
 cases hu:P.underlying ty with
 | none=>simp[hu]at hc
 | some d =>
  cases hz:zeroOf P ty with
  | none=>cases d<;>simp[hu,hz]at hc
  | some z =>
   cases d<;>simp only[hu,hz]at hc<;>(try (cases hc;done))
   rename_i fs
   split at hc
   ·rename_i ay
    simp only[Bool.and_eq_true]at ay
    simp only[Option.some.injEq]at hc;subst hc
    obtain⟨i,zv,h1,h2,h3⟩:=cg hz
    simp only[ae]at he
    split at he
    ·rename_i l hl
     simp only[Option.map_eq_some_iff,Prod.mk.injEq]at he
     obtain⟨cs,h4,rfl,rfl⟩:=he
     refine pg hu h1 h2 h3 (fun f hf=>?_) (fun p hp=>?_) h hv hl h4
     ·have:=ay.1
      simp only[lM,List.all_eq_true]at this
      exact Option.isSome_iff_exists.1 (this f hf)
     ·have:=ay.2
      simp only[List.all_eq_true,decide_eq_true_eq]at this
      exact this p hp
    ·cases he
   ·cases hc
theorem vt {ty:TypeId}{n:Nat}{ps:List (Nat×X)}{pv:List (Nat×Value)}{b:Bo}{mu:Bool}(hc:po P mu ty n ps=some b)(h:SR w0 g H w)(hv:PV g w R ps pv)(he:ae R H b=some (t,H')):aG P w0 g H w (Instr.buildSlice ty n pv.toArray) t H':=by
 unfold po at hc
 cases hu:P.underlying ty with
 | none=>simp[hu]at hc
 | some d =>
  cases d<;>simp only[hu]at hc<;>(try (cases hc;done))
  rename_i e
  cases hi:P.info? e with
  | none=>simp[hi]at hc
  | some ei =>
   cases hz:zeroOf P e with
   | none=>simp[hi,hz]at hc
   | some z =>
    simp only[hi,hz]at hc
    split at hc
    ·rename_i ay
     simp only[Bool.and_eq_true,beq_iff_eq,decide_eq_true_eq]at ay
     simp at hc;subst hc
     obtain⟨i,zv,h1,h2,h3⟩:=cg hz
     rw[hi]at h1;cases h1
     cases mu with
     | false =>
      simp only[Bool.false_eq_true,if_false,ae,Option.map_eq_some_iff,Prod.mk.injEq]at he
      obtain⟨fs,h4,rfl,rfl⟩:=he
      exact uT hu hi h2 h3 ay.1 ay.2 h hv h4
     | true =>
      simp only[if_true,ae,Option.bind_eq_some_iff]at he
      obtain⟨fs,h4,he⟩:=he
      split at he
      ·simp only[Option.some.injEq,Prod.mk.injEq]at he
       obtain⟨rfl,rfl⟩:=he
       exact uY hu hi h2 h3 ay.1 ay.2 h hv h4
      ·cases he
    ·cases hc
theorem vu {ty:TypeId}{mu:Bool}{l c:X}{vl vc:Value}{b:Bo}(hc:pq P mu ty l c=some b)(h:SR w0 g H w)(hl:VR g w (l.ev R) vl)(tW:VR g w (c.ev R) vc)(he:ae R H b=some (t,H')):aG P w0 g H w (Instr.makeSlice ty vl vc) t H':=by
 unfold pq at hc
 cases hu:P.underlying ty with
 | none=>simp[hu]at hc
 | some d =>
  cases d<;>simp only[hu]at hc<;>(try (cases hc;done))
  rename_i e
  cases hi:P.info? e with
  | none=>simp[hi]at hc
  | some ei =>
   cases hz:zeroOf P e with
   | none=>simp[hi,hz]at hc
   | some z =>
    simp only[hi,hz]at hc
    split at hc
    ·rename_i ay
     simp only[Bool.and_eq_true,beq_iff_eq,bne_iff_ne]at ay
     simp at hc;subst hc
     obtain⟨i,zv,h1,h2,h3⟩:=cg hz
     rw[hi]at h1;cases h1
     simp only[ae]at he
     cases BU:aR (l.ev R)with
     | none=>simp[BU]at he
     | some nl =>
      cases CD:aR (c.ev R)with
      | none=>simp[BU,CD]at he
      | some nc =>
       simp only[BU,CD]at he
       split at he
       ·rename_i cN
        refine uU (mu:=mu) hu hi h2 h3 ay.1 ay.2 h hl tW BU CD cN.1 cN.2.1 cN.2.2 ?_
        cases mu with
        | true=>simpa using he
        | false =>
         simp only[Bool.false_eq_true,if_false]at he ⊢
         split at he
         ·rename_i e0;rw[if_pos e0];simpa using he
         ·rename_i e0;rw[if_neg e0];simpa using he
       ·cases he
    ·cases hc
theorem RV.get {xs:List Operand}(h:RV g w R ρ xs){x:Operand}{y:X}(hx:x∈xs)(hc:ai x=some y):VR g w (y.ev R) (ρ x):=h x hx y hc
theorem x9 {mu:Bool}{o:Oper}{b:Bo}(hρ:∀f:FuncId,ρ (.func f)=.func (.func f) #[] #[])(hc:aB P mu o.op=some b)(h:SR w0 g H w)(hv:RV g w R ρ o.op.operands.toList)(he:ae R H b=some (t,H')):tX P w0 g H w (execOp ρ o) t H':=by
 obtain⟨dst,op,ty,pos,after,guard⟩:=o
 cases op<;>simp only[aB]at hc<;>(try (cases hc;done))<;>simp only[Op.operands]at hv
 case move x =>
  simp only[Option.map_eq_some_iff]at hc
  obtain⟨y,h1,rfl⟩:=hc
  simp only[ae,Option.some.injEq,Prod.mk.injEq]at he
  obtain⟨rfl,rfl⟩:=he
  exact⟨_,_,w,g,rfl,.inl rfl,.refl _ _,h,hv.get (by simp) h1,.refl _ _⟩
 case assign x =>
  simp only[Option.map_eq_some_iff]at hc
  obtain⟨y,h1,rfl⟩:=hc
  simp only[ae,Option.some.injEq,Prod.mk.injEq]at he
  obtain⟨rfl,rfl⟩:=he
  exact⟨_,_,w,g,rfl,.inl rfl,.refl _ _,h,hv.get (by simp) h1,.refl _ _⟩
 case pick c x y =>
  cases h1:ai c with
  | none=>simp[h1]at hc
  | some c' =>
   cases h2:ai x with
   | none=>simp[h1,h2]at hc
   | some x' =>
    cases h3:ai y with
    | none=>simp[h1,h2,h3]at hc
    | some y' =>
     simp only[h1,h2,h3,Option.some.injEq]at hc
     subst hc
     have vc:=hv.get (by simp) h1
     have vx:=hv.get (by simp) h2
     have vy:=hv.get (by simp) h3
     simp only[ae]at he
     generalize c'.ev R=tc at vc he
     cases tc<;>(try simp only[reduceCtorEq]at he)
     simp only[Option.some.injEq,Prod.mk.injEq]at he
     obtain⟨rfl,rfl⟩:=he
     obtain⟨v,w',g',k1,k2⟩:=qn (P:=P) h vc vx vy
     refine⟨.value v,v,w',g',?_,.inl rfl,k2⟩
     simp only[execOp,Sem.run_bind,Sem.run_pure]at k1 ⊢
     generalize (asBool (ρ c)).run P w=r at k1 ⊢
     cases r<;>simp_all
 case alloc jL =>
  simp only[Option.map_eq_some_iff]at hc
  obtain⟨z,h1,rfl⟩:=hc
  obtain⟨i,zv,h2,h3,h4⟩:=cg h1
  simp only[ae,Option.some.injEq,Prod.mk.injEq]at he
  obtain⟨rfl,rfl⟩:=he
  exact(pf h2 h3 h4 h).fy
 case box jL x =>
  simp only[Option.map_eq_some_iff]at hc
  obtain⟨y,h1,rfl⟩:=hc
  simp only[ae,Option.map_eq_some_iff,Prod.mk.injEq]at he
  obtain⟨cs,h2,rfl,rfl⟩:=he
  exact(uJ h (hv.get (by simp) h1) h2).fy
 case build jL ps =>
  simp only[Option.bind_eq_some_iff]at hc
  obtain⟨qs,h1,h2⟩:=hc
  have hp:=gz (ρ:=ρ) _ _ h1 (by simpa using hv)
  have:=(pw h2 h hp he).fy
  have e:(ps.map fun x=>(x.1,ρ x.2))=(ps.toList.map fun p=>(p.1,ρ p.2)).toArray:=by apply Array.ext';simp
  simp only[execOp]
  rw[e];exact this
 case buildSlice jL n ps =>
  simp only[Option.bind_eq_some_iff]at hc
  obtain⟨qs,h1,h2⟩:=hc
  have hp:=gz (ρ:=ρ) _ _ h1 (by simpa using hv)
  have:=(vt h2 h hp he).fy
  have e:(ps.map fun x=>(x.1,ρ x.2))=(ps.toList.map fun p=>(p.1,ρ p.2)).toArray:=by apply Array.ext';simp
  simp only[execOp]
  rw[e];exact this
 case insert jL m k v =>
  cases h1:ai m with
  | none=>simp[h1]at hc
  | some m' =>
   cases h2:ai k with
   | none=>simp[h1,h2]at hc
   | some k' =>
    cases h3:ai v with
    | none=>simp[h1,h2,h3]at hc
    | some v' =>
     simp only[h1,h2,h3,Option.map_eq_some_iff]at hc
     obtain⟨⟨e,kt,z⟩,h4,rfl⟩:=hc
     exact ob h4 h (hv.get (by simp) h1) (hv.get (by simp) h2) (hv.get (by simp) h3) he
 case mapUpdate jL m k v =>
  cases h1:ai m with
  | none=>simp[h1]at hc
  | some m' =>
   cases h2:ai k with
   | none=>simp[h1,h2]at hc
   | some k' =>
    cases h3:ai v with
    | none=>simp[h1,h2,h3]at hc
    | some v' =>
     simp only[h1,h2,h3,Option.map_eq_some_iff]at hc
     obtain⟨⟨e,kt,z⟩,h4,rfl⟩:=hc
     exact ob h4 h (hv.get (by simp) h1) (hv.get (by simp) h2) (hv.get (by simp) h3) he
 case load jL x =>
  simp only[Option.bind_eq_some_iff]at hc
  obtain⟨y,h1,h2⟩:=hc
  exact qN h2 h (hv.get (by simp) h1) he
 case store jL a v =>
  cases h1:P.info? jL with
  | none=>simp[h1]at hc
  | some i =>
   cases h2:ai a with
   | none=>simp[h1,h2]at hc
   | some a' =>
    cases h3:ai v with
    | none=>simp[h1,h2,h3]at hc
    | some v' =>
     simp only[h1,h2,h3,Option.some.injEq]at hc
     subst hc
     simp only[ae]at he
     cases h4:(v'.ev R).cells? with
     | none=>simp[h4]at he
     | some vs =>
      simp only[h4]at he
      split at he
      ·rename_i hn
       simp only[Option.map_eq_some_iff,Prod.mk.injEq]at he
       obtain⟨H1,h5,rfl,rfl⟩:=he
       obtain⟨w',g',k1,k2,k3,k4⟩:=xM (P:=P) h1 h (hv.get (by simp) h2) (hv.get (by simp) h3) h4 hn h5
       exact⟨.skip,undef,w',g',by simp[execOp,k1],.inr ⟨rfl,rfl⟩,k2,k3,da,k4⟩
      ·cases he
 case nilCheck x =>
  simp only[Option.map_eq_some_iff]at hc
  obtain⟨y,h1,rfl⟩:=hc
  have vx:=hv.get (by simp) h1
  simp only[ae]at he
  have key:t=y.ev R∧H'=H∧∃v,(execOp ρ ⟨dst,.nilCheck x,ty,pos,after,guard⟩).run P w=.ok (.value v) w∧v=ρ x:=by
   simp only[execOp]
   generalize y.ev R=tx at vx he
   generalize ρ x=vv at vx
   cases vx<;>simp only[reduceCtorEq,Option.some.injEq,Prod.mk.injEq]at he<;>obtain⟨rfl,rfl⟩:=he<;>exact⟨rfl,rfl,_,rfl,rfl⟩
  obtain⟨rfl,rfl,v,k1,rfl⟩:=key
  exact⟨_,_,w,g,k1,.inl rfl,.refl _ _,h,vx,.refl _ _⟩
 case binOp op jL x y yt =>
  cases h1:ai x with
  | none=>simp[h1]at hc
  | some x' =>
   cases h2:ai y with
   | none=>simp[h1,h2]at hc
   | some y' =>
    simp only[h1,h2]at hc
    exact u7 hc h (hv.get (by simp) h1) (hv.get (by simp) h2) he
 case unOp op jL x =>
  simp only[Option.map_eq_some_iff]at hc
  obtain⟨y,h1,rfl⟩:=hc
  simp only[ae,Option.map_eq_some_iff,Prod.mk.injEq]at he
  obtain⟨t',h2,rfl,rfl⟩:=he
  exact(xD h (hv.get (by simp) h1) h2).fy
 case convert s d x =>
  simp only[Option.bind_eq_some_iff]at hc
  obtain⟨y,h1,h2⟩:=hc
  exact qQ h2 h (hv.get (by simp) h1) he
 case makeFunc fn first ew =>
  cases fn<;>simp only[aB]at hc<;>(try (cases hc;done))
  rename_i f
  split at hc
  ·rename_i h0
   simp only[Option.map_eq_some_iff]at hc
   obtain⟨ys,h1,rfl⟩:=hc
   have:first=#[]:=Array.eq_empty_of_size_eq_zero h0
   subst this
   simp only[ae,Option.some.injEq,Prod.mk.injEq]at he
   obtain⟨rfl,rfl⟩:=he
   have gi:=cf (ρ:=ρ) _ _ h1 (fun x hx=>hv x (by simpa using hx))
   have:=(uV (P:=P) (f:=f) h gi).fy
   have e:ew.map ρ=(ew.toList.map ρ).toArray:=by apply Array.ext';simp
   have e0:(#[]:Array Operand).map ρ=#[]:=by simp
   simp only[execOp]
   rw[e,e0];exact this
  ·cases hc
 case range jL m =>
  cases hu:P.underlying jL with
  | none=>simp[hu]at hc
  | some d =>
   cases d<;>simp only[hu]at hc<;>(try (cases hc;done))
   simp only[Option.map_eq_some_iff]at hc
   obtain⟨y,h1,rfl⟩:=hc
   have vm:=hv.get (by simp) h1
   simp only[ae]at he
   generalize y.ev R=tm at vm he
   cases tm<;>(try (simp only[reduceCtorEq]at he;done))
   rename_i bb
   simp only[Option.map_eq_some_iff,Prod.mk.injEq]at he
   obtain⟨es,h2,rfl,rfl⟩:=he
   exact(u3 hu h vm h2).fy
 case next it str =>
  cases str<;>simp only[aB]at hc<;>(try (cases hc;done))
  simp only[Option.map_eq_some_iff]at hc
  obtain⟨y,h1,rfl⟩:=hc
  simp[ae]at he
 case entry it =>
  simp only[Option.map_eq_some_iff]at hc
  obtain⟨y,h1,rfl⟩:=hc
  have vm:=hv.get (by simp) h1
  simp only[ae]at he
  generalize y.ev R=tm at vm he
  cases tm<;>(try (simp only[reduceCtorEq]at he;done))
  rename_i bi off
  cases off with
  | succ _=>simp at he
  | zero =>
   simp only at he
   cases hi:H[bi]? with
   | none=>simp[hi]at he
   | some yi =>
    cases yi<;>simp only[hi]at he<;>(try (cases he;done))
    rename_i bb
    cases hb:H[bb]? with
    | none=>simp[hb]at he
    | some yb =>
     cases yb<;>simp only[hb]at he<;>(try (cases he;done))
     rename_i es ix wv cur
     cases cur with
     | none=>simp at he
     | some c =>
      simp only at he
      split at he
      ·rename_i e;subst e
       simp only[Option.map_eq_some_iff,Prod.mk.injEq]at he
       obtain⟨e,h2,rfl,rfl⟩:=he
       exact(u5 h vm hb h2).fy
      ·cases he
 case makeMap jL r =>
  cases r with
  | some _=>simp[aB]at hc
  | none =>
   simp only[aB,Option.some.injEq]at hc
   subst hc
   simp only[ae,Option.some.injEq,Prod.mk.injEq]at he
   obtain⟨rfl,rfl⟩:=he
   exact(uK h).fy
 case makeSlice jL l c =>
  cases h1:ai l with
  | none=>simp[h1]at hc
  | some l' =>
   cases h2:ai c with
   | none=>simp[h1,h2]at hc
   | some c' =>
    simp only[h1,h2]at hc
    exact(vu hc h (hv.get (by simp) h1) (hv.get (by simp) h2) he).fy
 case slice jL x lo hi mx =>
  cases h1:ai x with
  | none=>simp[h1]at hc
  | some x' =>
   cases h2:dU lo with
   | none=>simp[h1,h2]at hc
   | some Gq =>
    cases h3:dU hi with
    | none=>simp[h1,h2,h3]at hc
    | some gh =>
     cases h4:dU mx with
     | none=>simp[h1,h2,h3,h4]at hc
     | some Gr =>
      simp only[h1,h2,h3,h4]at hc
      split at hc
      ·exact vd hc h (hv.get (by simp) h1) (cQ h2 (fun z hz=>hv z (by simp;simp at hz;simp[hz]))) (cQ h3 (fun z hz=>hv z (by simp;simp at hz;simp[hz]))) (cQ h4 (fun z hz=>hv z (by simp;simp at hz;simp[hz]))) he
      ·exact pr hc h (hv.get (by simp) h1) (cQ h2 (fun z hz=>hv z (by simp;simp at hz;simp[hz]))) (cQ h3 (fun z hz=>hv z (by simp;simp at hz;simp[hz]))) (cQ h4 (fun z hz=>hv z (by simp;simp at hz;simp[hz]))) he
 case fieldAddr jL x f =>
  simp only[Option.bind_eq_some_iff]at hc
  obtain⟨y,h1,h2⟩:=hc
  exact(jK h2 h (hv.get (by simp) h1) he).fy
 case field jL x f =>
  simp only[Option.bind_eq_some_iff]at hc
  obtain⟨y,h1,h2⟩:=hc
  exact(jK h2 h (hv.get (by simp) h1) he).fy
 case indexAddr jL x i =>
  cases h1:ai x with
  | none=>simp[h1]at hc
  | some x' =>
   cases h2:ai i with
   | none=>simp[h1,h2]at hc
   | some i' =>
    simp only[h1,h2]at hc
    exact(n9 hc h (hv.get (by simp) h1) (hv.get (by simp) h2) he).fy
 case index jL x i =>
  cases h1:ai x with
  | none=>simp[h1]at hc
  | some x' =>
   cases h2:ai i with
   | none=>simp[h1,h2]at hc
   | some i' =>
    simp only[h1,h2]at hc
    exact(n9 hc h (hv.get (by simp) h1) (hv.get (by simp) h2) he).fy
 case lookup jL m k ok =>
  cases h1:ai m with
  | none=>simp[h1]at hc
  | some m' =>
   cases h2:ai k with
   | none=>simp[h1,h2]at hc
   | some k' =>
    simp only[h1,h2,Option.map_eq_some_iff]at hc
    obtain⟨⟨e,kt,z⟩,h4,rfl⟩:=hc
    exact(vq h4 h (hv.get (by simp) h1) (hv.get (by simp) h2) he).fy
 case extract x i =>
  simp only[Option.map_eq_some_iff]at hc
  obtain⟨y,h1,rfl⟩:=hc
  have vx:=hv.get (by simp) h1
  simp only[ae]at he
  generalize y.ev R=tx at vx he
  cases tx<;>(try simp only[reduceCtorEq]at he)
  simp only[Option.map_eq_some_iff,Prod.mk.injEq]at he
  obtain⟨t',h2,rfl,rfl⟩:=he
  exact(uI h vx h2).fy
 case call c =>
  obtain⟨callee,args,dq⟩:=c
  cases callee
  case value cv =>
   cases cv<;>simp only[aB]at hc<;>(try (cases hc;done))
   rename_i f
   split at hc
   ·rename_i n x y mO h1
    simp only[Option.some.injEq]at hc;subst hc
    have gi:=cf (ρ:=ρ) _ _ h1 (fun x hx=>hv x (by simp[Call.operands];exact .inr (by simpa using hx)))
    simp only[ae]at he
    have hd:=vo mO h gi he
    simpa[execOp,resolve,hρ,Deferred.ofValue,invoke]using hd
   ·cases hc
  all_goals simp only[aB]at hc<;>(try (cases hc;done))
  rename_i bi
  simp only[Option.bind_eq_some_iff]at hc
  obtain⟨as,h1,h2⟩:=hc
  have gi:=cf (ρ:=ρ) _ _ h1 (fun x hx=>hv x (by simpa[Call.operands]using hx))
  have e:args.map ρ=(args.toList.map ρ).toArray:=by apply Array.ext';simp
  have e2:dq=dq.toList.toArray:=by simp
  have:=lO (rt:=ty) (cs:=args.map fun | .const _=>true|_=>false) h2 h gi he
  simp only[execOp,resolve,pure_bind,invoke]
  rw[e,e2]
  exact this
end
section
variable {P:Program} {w0 w:World} {g:Ctx} {H:aa}
theorem SR.kK {b r o q:Nat}{x x':Obj}{y y':B}(h:SR w0 g H w)(hb:H[b]?=some y)(hφ:g.φ b=some (r,o,q))(h1:g.κ r 0=.mut b)(hr:w.heap[r]?=some x)(hs:cw x=true)(g5:cw x'=true)
  (kz:∀w',Le g w g w'→w'.heap[r]?=some x'→lA g w' b y') :
  Le g w g (w.putObj r x')∧SR w0 g (H.set b y') (w.putObj r x')∧Fr g H g (H.set b y'):=by
 have fu:b<H.length:=(List.getElem?_eq_some_iff.1 hb).1
 have tr:Tr w (w.putObj r x') cz (fun r'=>r'=r):=Tr.m8 w r hs g5 hr
 have le:Le g w g (w.putObj r x'):=Le.cJ tr (fun _ _ h=>h) (fun _ _ h=>h) (fun _ _ _ h=>h) (fun _ _ hs=>hs.elim)
 refine⟨le,h.step (fun b'=>b'=b) tr le (fun _ _ hs=>hs.elim) (fun r' hm=>⟨b,by rw[hm];exact h1,rfl⟩) (fun r' j fb=>h.fresh r' j (by simpa[World.putObj]using fb)) (fun b' x hx=>by rw[List.length_set];exact h.gZ b' x hx)
  (fun t e x hx=>by rw[List.length_set];exact h.cu t e x hx) (fun _ _ _=>rfl) (fun _ _ _ _=>⟨id,id⟩) (fun _ _ _ _=>rfl) (fun b' x hx=>?_),by simp,fun b' x a _ d=>⟨bB a (by rintro rfl;rw[hφ]at d;cases d),d⟩⟩
 rcases bf fu hx with⟨rfl,rfl⟩|⟨aF,er⟩
 ·exact .inr (kz _ le (World.putObj_heap_same (Array.getElem?_eq_some_iff.1 hr).1))
 ·exact .inl ⟨aF,er⟩
theorem SR.qR {x:Obj}{y:B}(h:SR w0 g H w)(EN:cw x=true)
  (kz:∀g' w',Le g w g' w'→g'.κ w.heap.size 0=.mut H.length→g'.φ H.length=some (w.heap.size,0,0)→w'.heap[w.heap.size]?=some x→lA g' w' H.length y) :
  ∃g',Le g w g' (w.alloc x)∧SR w0 g' (H++[y]) (w.alloc x)∧Fr g H g' (H++[y])∧g'.φ H.length=some (w.heap.size,0,0):=by
 have jE:=Tr.alloc w x
 have aF:∀r j ow,g.κ r j=ow→ow≠.free→r≠w.heap.size:=by rintro r j ow e hn rfl;exact hn (e▸h.fresh _ j (Nat.le_refl _))
 have zX:=h.tV (b:=H.length) (Nat.le_refl _)
 have le:Le g w ((g.row w.heap.size fun _=>.mut H.length).at H.length (w.heap.size,0,0)) (w.alloc x):=Le.cJ jE
  (fun b' x hx=>by simp only[Ctx.at,Ctx.row];split;rename_i e;subst e;rw[zX]at hx;simp at hx;exact hx)
  (fun r o hk=>by simp only[Ctx.row,Ctx.at];rw[if_neg (aF r o _ hk (by simp))];exact hk) (fun _ _ _ h=>h) (fun _ _ hs=>hs.elim)
 refine⟨_,le,?_,⟨by simp,fun b x a _ d=>⟨cn a,?_⟩⟩,by simp[Ctx.at]⟩
 ·refine h.step (fun b'=>b'=H.length) jE le (fun _ _ hs=>hs.elim) (fun _ hm=>hm.elim) (fun r o hr=>?_) (fun b' x hx=>?_) (fun t e x hx=>by have:=h.cu t e x hx;simp;omega) (fun b' _ cV=>?_) (fun r j b' cV=>?_) (fun _ _ _ _=>rfl) (fun b' x hx=>?_)
  ·simp at hr
   simp only[Ctx.row,Ctx.at];rw[if_neg (by omega)];exact h.fresh r o (by omega)
  ·simp only[Ctx.at,Ctx.row]at hx
   split at hx
   ·rename_i e;subst e;simp
   ·have:=h.gZ b' x hx;simp;omega
  ·simp only[Ctx.at,Ctx.row];rw[if_neg cV]
  ·constructor<;>intro e<;>simp only[Ctx.row,Ctx.at]<;>rw[if_neg (aF r j _ e (by simp))]<;>exact e
  ·by_cases e:b'=H.length
   ·subst e
    rw[bh]at hx;cases hx
    exact .inr (kz _ _ le (by simp[Ctx.row,Ctx.at]) (by simp[Ctx.at]) (World.alloc_heap_new w _))
   ·exact .inl ⟨e,aL e hx⟩
 ·have:=(List.getElem?_eq_some_iff.1 a).1
  simp only[Ctx.at,Ctx.row];rw[if_neg (by omega)];exact d
theorem SR.freeze {b:Nat}{cs:List T}(h:SR w0 g H w)(hb:H[b]?=some (.cells cs))(hφ:∃x,g.φ b=some x) :
  ∃g',Le g w g' w∧SR w0 g' (H.set b .dead) w∧Fr g H g' (H.set b .dead)∧∀t v,VR g w t v→VR g' w (mV b cs t) v:=by
 let g':Ctx:={ g with κ:=fun r o=>if g.κ r o=.mut b then .cG else g.κ r o }
 have le:Le g w g' w:=⟨fun _ _ h=>h,fun r o e=>by simp only[g'];rw[e];simp,fun _ _ _ h=>h,fun _ _ _ _ h=>h,rfl⟩
 have fu:b<H.length:=(List.getElem?_eq_some_iff.1 hb).1
 have tr:Tr w w (fun _ _=>False) (fun _=>False):=⟨⟨Nat.le_refl _,fun _ _ _ _=>rfl,fun _ _ _ h=>h,fun _ _ _ _ h=>h,fun _ _ _ _=>rfl,rfl,rfl⟩,fun _ _ _=>rfl⟩
 have sr:SR w0 g' (H.set b .dead) w:=by
  refine h.step (fun b'=>b'=b) tr le (fun _ _ h=>h.elim) (fun _ h=>h.elim) (fun r o hr=>?_) (fun b' x hx=>?_) (fun t e x hx=>?_) (fun _ _ _=>rfl) (fun r j b' aF=>⟨fun e=>?_,fun e=>?_⟩) (fun _ _ _ _=>rfl) (fun b' x hx=>?_)
  ·simp only[g'];rw[h.fresh r o hr];simp
  ·rw[List.length_set];exact h.gZ b' x hx
  ·rw[List.length_set];exact h.cu t e x hx
  ·simp only[g'];rw[e,if_neg (by simpa using aF)]
  ·simp only[g'];rw[e,if_neg (by simp)]
  ·rcases bf fu hx with⟨rfl,rfl⟩|⟨aF,er⟩
   ·exact .inr trivial
   ·exact .inl ⟨aF,er⟩
 have one:∀t v,VR g w t v→VR g' w (ug b cs t) v:=by
  intro t v hv
  cases t with
  | aO b' off len n =>
   simp only[ug]
   split
   ·rename_i hc
    obtain⟨rfl,hle⟩:=hc
    cases hv with
    | @aO _ _ _ _ r o q cap hp hc hq =>
     obtain⟨c1,c2,c3⟩:=h.dv _ _ hb r o q hp
     have hlen:(dM cs off len n).length=len:=by simp[dM]
     have qP:∀(i j:Nat) (c:List T) (t:T),(dM cs off len n)[i]?=some c→c[j]?=some t→j<n∧i<len∧cs[off+i*n+j]?=some t:=by
      intro i j c t hi hj
      have fe:i<len:=by have:=(List.getElem?_eq_some_iff.1 hi).1;rw[hlen]at this;exact this
      simp only[dM,List.getElem?_map,List.getElem?_range fe,Option.map_some,Option.some.injEq]at hi
      subst hi
      rw[List.getElem?_take]at hj
      split at hj
      ·rename_i BV
       rw[List.getElem?_drop]at hj
       exact⟨BV,fe,hj⟩
      ·cases hj
     have key:∀(i j:Nat) (c:List T) (t:T),(dM cs off len n)[i]?=some c→c[j]?=some t→t.one=true∧∃v,w.cell? ⟨r,o+off+i*n+j,none⟩=some v∧VR g w t v∧g.κ r (o+off+i*n+j)=.mut b':=by
      intro i j c t hi hj
      obtain⟨h1,h2,h3⟩:=qP i j c t hi hj
      obtain⟨k1,v,k2,k3⟩:=c3 _ _ h3
      have jl:off+i*n+j<cs.length:=(List.getElem?_eq_some_iff.1 h3).1
      refine⟨k1,v,?_,k3,?_⟩
      ·rw[show o+off+i*n+j=o+(off+i*n+j) by omega];exact k2
      ·exact(c2 (o+off+i*n+j) (by omega) (by omega)).1
     have:=VR.sl (g:=g') (w:=w) (k:=.arg) (es:=dM cs off len n) (r:=r) (o:=o+off) (cap:=cap) (n:=n) (fun i j=>(w.cell? ⟨r,o+off+i*n+j,none⟩).getD undef) trivial (by rw[hlen];exact hc)
      (fun c iq=>by
       obtain⟨i,hi,rfl⟩:=List.mem_map.1 iq
       have hi:=List.mem_range.1 hi
       have:i*n+n≤len*n:=by rw[←Nat.succ_mul];exact Nat.mul_le_mul_right n hi
       rw[List.length_take,List.length_drop];omega)
      (fun i j c t hi hj=>by
       obtain⟨k1,v,k2,_,k4⟩:=key i j c t hi hj
       refine⟨k1,?_,by rw[k2];rfl⟩
       simp only[g'];rw[if_pos k4])
      (fun i j c t hi hj=>by
       obtain⟨_,v,k2,k3,_⟩:=key i j c t hi hj
       rw[k2];exact k3.mono le)
     rw[hlen]at this
     exact this
   ·exact hv.mono le
  | _=>exact hv.mono le
 refine⟨g',le,sr,⟨by simp,fun b' y a _ d=>⟨bB a (by rintro rfl;obtain⟨x,hx⟩:=hφ;rw[hx]at d;cases d),d⟩⟩,fun t v hv=>?_⟩
 cases t with
 | bl vs =>
  cases hv with
  | bl hl h2 =>
   refine .bl (by simpa using hl) fun i t v hi px=>?_
   rw[List.getElem?_map,Option.map_eq_some_iff]at hi
   obtain⟨t',vz,rfl⟩:=hi
   exact one _ _ (h2 i t' v vz px)
 | _=>exact one _ _ hv
end
section
variable {w0 w:World} {g:Ctx} {H:aa}
theorem SR.vA {b:Nat}{cs:List T}(h:SR w0 g H w)(hb:H[b]?=some (.cells cs))(hφ:∃x,g.φ b=some x) :
  ∃g',Le g w g' w∧SR w0 g' (H.set b (.fz cs)) w∧Fr g H g' (H.set b (.fz cs)):=by
 let g':Ctx:={ g with κ:=fun r o=>if g.κ r o=.mut b then .cG else g.κ r o }
 have le:Le g w g' w:=⟨fun _ _ h=>h,fun r o e=>by simp only[g'];rw[e];simp,fun _ _ _ h=>h,fun _ _ _ _ h=>h,rfl⟩
 have fu:b<H.length:=(List.getElem?_eq_some_iff.1 hb).1
 have tr:Tr w w (fun _ _=>False) (fun _=>False):=⟨⟨Nat.le_refl _,fun _ _ _ _=>rfl,fun _ _ _ h=>h,fun _ _ _ _ h=>h,fun _ _ _ _=>rfl,rfl,rfl⟩,fun _ _ _=>rfl⟩
 have sr:SR w0 g' (H.set b (.fz cs)) w:=by
  refine h.step (fun b'=>b'=b) tr le (fun _ _ h=>h.elim) (fun _ h=>h.elim) (fun r o hr=>?_) (fun b' x hx=>?_) (fun t e x hx=>?_) (fun _ _ _=>rfl) (fun r j b' aF=>⟨fun e=>?_,fun e=>?_⟩) (fun _ _ _ _=>rfl) (fun b' x hx=>?_)
  ·simp only[g'];rw[h.fresh r o hr];simp
  ·rw[List.length_set];exact h.gZ b' x hx
  ·rw[List.length_set];exact h.cu t e x hx
  ·simp only[g'];rw[e,if_neg (by simpa using aF)]
  ·simp only[g'];rw[e,if_neg (by simp)]
  ·rcases bf fu hx with⟨rfl,rfl⟩|⟨aF,er⟩
   ·refine .inr fun r o q hq=>?_
    obtain⟨c1,c2,c3⟩:=h.dv _ _ hb r o q hq
    refine⟨c1,fun i t hi=>?_⟩
    have fe:i<cs.length:=(List.getElem?_eq_some_iff.1 hi).1
    obtain⟨k1,v,k2,k3⟩:=c3 i t hi
    refine⟨k1,v,⟨?_,k2⟩,k3.mono le⟩
    simp only[g'];rw[if_pos (c2 (o+i) (by omega) (by omega)).1]
   ·exact .inl ⟨aF,er⟩
 exact⟨g',le,sr,⟨by simp,fun b' y a _ d=>⟨bB a (by rintro rfl;obtain⟨x,hx⟩:=hφ;rw[hx]at d;cases d),d⟩⟩⟩
theorem fW (cs:List T)(off len n:Nat):(dM cs off len n).length=len:=by simp[dM]
theorem qS {cs:List T}{off len n i j:Nat}{c:List T}{t:T}(hi:(dM cs off len n)[i]?=some c)(hj:c[j]?=some t):j<n∧i<len∧cs[off+i*n+j]?=some t:=by
 have fe:i<len:=by have:=(List.getElem?_eq_some_iff.1 hi).1;rw[fW]at this;exact this
 simp only[dM,List.getElem?_map,List.getElem?_range fe,Option.map_some,Option.some.injEq]at hi
 subst hi
 rw[List.getElem?_take]at hj
 split at hj
 ·rename_i BV
  rw[List.getElem?_drop]at hj
  exact⟨BV,fe,hj⟩
 ·cases hj
theorem SR.vB {b len n:Nat}{cs:List T}{v:Value}(h:SR w0 g H w)(hb:H[b]?=some (.cells cs))(hv:VR g w (.aO b 0 len n) v)(hlen:len*n=cs.length)(h0:0<len) :
  ∃g',Le g w g' w∧SR w0 g' (H.set b (.fz cs)++[.tok len]) w∧Fr g H g' (H.set b (.fz cs)++[.tok len])∧∀v,VR g w (.aO b 0 len n) v→VR g' w (.sl (.own H.length len) (dM cs 0 len n)) v:=by
 obtain⟨r,o,q,hφ⟩:∃r o q,g.φ b=some (r,o,q):=by cases hv with|aO hp=>exact⟨_,_,_,hp⟩
 obtain⟨c1,c2,c3⟩:=h.dv _ _ hb r o q hφ
 have fu:b<H.length:=(List.getElem?_eq_some_iff.1 hb).1
 let g':Ctx:={ g with κ:=fun r' o'=>if g.κ r' o'=.mut b then(if r'=r∧o+cs.length≤o'∧o'<q then .spare H.length else .cG)else g.κ r' o',π:=fun t e=>if t=H.length then(if e=len then some (r,o+cs.length,q)else none)else g.π t e }
 have E0:∀e,g.π H.length e=none:=fun e=>by
  cases hp:g.π H.length e with
  | none=>rfl
  | some x=>exact absurd (h.cu _ _ _ hp) (Nat.lt_irrefl _)
 have le:Le g w g' w:=⟨fun _ _ h=>h,fun r o e=>by simp only[g'];rw[e];simp,fun t e x hx=>by
  simp only[g'];rw[if_neg (by rintro rfl;rw[E0]at hx;cases hx)];exact hx,fun _ _ _ _ h=>h,rfl⟩
 have tr:Tr w w (fun _ _=>False) (fun _=>False):=⟨⟨Nat.le_refl _,fun _ _ _ _=>rfl,fun _ _ _ h=>h,fun _ _ _ _ h=>h,fun _ _ _ _=>rfl,rfl,rfl⟩,fun _ _ _=>rfl⟩
 have cG:∀i,i<cs.length→g'.κ r (o+i)=.cG:=fun i hi=>by
  simp only[g'];rw[if_pos (c2 (o+i) (by omega) (by omega)).1,if_neg (by omega)]
 have sr:SR w0 g' (H.set b (.fz cs)++[.tok len]) w:=by
  refine h.step (fun b'=>b'=b∨b'=H.length) tr le (fun _ _ h=>h.elim) (fun _ h=>h.elim) (fun r o hr=>?_) (fun b' x hx=>?_) (fun t e x hx=>?_) (fun _ _ _=>rfl) (fun r j b' aF=>⟨fun e=>?_,fun e=>?_⟩) (fun t e _ ht=>?_) (fun b' x hx=>?_)
  ·simp only[g'];rw[h.fresh r o hr];simp
  ·have:=h.gZ b' x hx;simp;omega
  ·simp only[g']at hx
   split at hx
   ·rename_i e;subst e;simp
   ·have:=h.cu t e x hx;simp;omega
  ·simp only[g'];rw[e,if_neg (by simpa using fun e=>aF (.inl e))]
  ·simp only[g'];rw[e,if_neg (by simp)]
  ·simp only[g'];rw[if_neg (fun e=>ht (.inr e))]
  ·by_cases e:b'=H.length
   ·subst e
    have:(H.set b (.fz cs)++[B.tok len])[H.length]?=some (.tok len):=by rw[show H.length=(H.set b (.fz cs)).length by simp];exact bh _ _
    rw[this]at hx;cases hx
    refine .inr ⟨r,o+cs.length,q,by simp[g'],c1,fun j a c=>⟨?_,(c2 j (by omega) c).2⟩,fun e' he=>?_⟩
    ·simp only[g',true_and];rw[if_pos (c2 j (by omega) c).1,if_pos ⟨a,c⟩]
    ·simp only[g',if_true];rw[if_neg (by omega)]
   ·have er:(H.set b (.fz cs))[b']?=some x:=aL (by simpa using e) hx
    rcases bf fu er with⟨rfl,rfl⟩|⟨aF,er⟩
    ·refine .inr fun r' o' q' hq=>?_
     have e1:g.φ b'=some (r',o',q'):=hq
     rw[hφ]at e1;cases e1
     refine⟨c1,fun i t hi=>?_⟩
     have fe:i<cs.length:=(List.getElem?_eq_some_iff.1 hi).1
     obtain⟨k1,v,k2,k3⟩:=c3 i t hi
     exact⟨k1,v,⟨cG i fe,k2⟩,k3.mono le⟩
    ·exact .inl ⟨fun e'=>e'.elim aF e,er⟩
 refine⟨g',le,sr,⟨by simp,fun b' y a _ d=>⟨cn (bB a (by rintro rfl;rw[hφ]at d;cases d)),d⟩⟩,fun v hv=>?_⟩
 cases hv with
 | @aO _ _ _ _ r1 o1 q1 cap hp hc hq =>
  rw[hφ]at hp;cases hp
  have key:∀(i j:Nat) (c:List T) (t:T),(dM cs 0 len n)[i]?=some c→c[j]?=some t→t.one=true∧∃v,w.cell? ⟨r,o+i*n+j,none⟩=some v∧VR g w t v∧g'.κ r (o+i*n+j)=.cG:=by
   intro i j c t hi hj
   obtain⟨_,_,h3⟩:=qS hi hj
   obtain⟨k1,v,k2,k3⟩:=c3 _ _ h3
   have jl:0+i*n+j<cs.length:=(List.getElem?_eq_some_iff.1 h3).1
   refine⟨k1,v,?_,k3,?_⟩
   ·rw[show o+i*n+j=o+(0+i*n+j) by omega];exact k2
   ·rw[show o+i*n+j=o+(i*n+j) by omega];exact cG _ (by omega)
  have:=VR.sl (g:=g') (w:=w) (k:=.own H.length len) (es:=dM cs 0 len n) (r:=r) (o:=o) (cap:=cap) (n:=n) (fun i j=>(w.cell? ⟨r,o+i*n+j,none⟩).getD undef)
   (by
    rw[fW]
    refine⟨?_,h0⟩
    simp only[g']
    simp only[if_true]
    rw[hlen]
    have:o+cap*n=q:=by omega
    rw[this])
   (by rw[fW];exact hc)
   (fun c iq=>by
    obtain⟨i,hi,rfl⟩:=List.mem_map.1 iq
    have hi:=List.mem_range.1 hi
    have:i*n+n≤len*n:=by rw[←Nat.succ_mul];exact Nat.mul_le_mul_right n hi
    rw[List.length_take,List.length_drop];omega)
   (fun i j c t hi hj=>by
    obtain⟨k1,v,k2,_,k4⟩:=key i j c t hi hj
    exact⟨k1,k4,by rw[k2];rfl⟩)
   (fun i j c t hi hj=>by
    obtain⟨_,v,k2,k3,_⟩:=key i j c t hi hj
    rw[k2];exact k3.mono le)
  rw[fW]at this
  exact this
theorem Vw.ok {t t':T}(hv:Vw H t t')(h:SR w0 g H w):∀v,VR g w t v→VR g w t' v:=by
 induction hv with
 | refl t=>exact fun v hv=>hv
 | @ms b off len n cs es src hb hl hn hle h1 h2 ih =>
  intro v hv
  cases hv with
  | @aO _ _ _ _ r o q cap hp hc hq =>
   have hf:=h.dv _ _ hb r o q hp
   have key:∀(i j:Nat) (c:List T) (t':T),es[i]?=some c→c[j]?=some t'→t'.one=true∧∃v,mL g w r (o+off+i*n+j) v∧VR g w t' v:=by
    intro i j c t' hi hj
    obtain⟨k1,k2⟩:=h1 i j c t' hi hj
    obtain⟨_,v,k3,k4⟩:=hf.2 _ _ k1
    exact⟨k2,v,by rw[show o+off+i*n+j=o+(off+i*n+j) by omega];exact k3,ih i j c t' hi hj v k4⟩
   have:=VR.sl (g:=g) (w:=w) (k:=.arg) (es:=es) (r:=r) (o:=o+off) (cap:=cap) (n:=n) (fun i j=>(w.cell? ⟨r,o+off+i*n+j,none⟩).getD undef) trivial (by rw[hl];exact hc) hn
    (fun i j c t' hi hj=>by
     obtain⟨k1,v,k2,_⟩:=key i j c t' hi hj
     refine⟨k1,k2.1,?_⟩
     rw[k2.2];rfl)
    (fun i j c t' hi hj=>by
     obtain⟨_,v,k2,k3⟩:=key i j c t' hi hj
     rw[k2.2];exact k3)
   rw[hl]at this
   exact this
end
def bn (P:Program)(f:FuncId):Bool :=
 match P.funcs[f]? with
 | some fn=>fn.name != "runtime.NumGoroutine"&&fn.body.isSome
 | none=>false
def bF (P:Program)(mu:Bool):Op→Option tO
 | .call { callee:=.value (.func f),args,.. }=>if bn P f then(cd args.toList).map (.call f)else match n8 P f,cd args.toList with
  | some n,some [x,y]=>some (.b (.zx n x y))
  | _,_=>none
 | .call { callee:=.value (.tmp t),args,.. }=>(cd args.toList).map (.aQ (.r t))
 | op=>(aB P mu op).map .b
def wG:Op→Bool
 | .defer _=>false
 | _=>true
def a8 (P:Program)(mu:Bool)(op:Op):Option tO:=match bF P mu op with
 | some y=>some y
 | none=>if mu&&wG op then some (.aQ (.c .dz) [])else none
def jM (ops:Array Oper):Option (Nat×Bool)→Option Gd
 | none=>some none
 | some (j,b)=>match (ops[j]?).bind (·.dst)with
  | some d=>some (some (d,b))
  | none=>none
def bj:X→List Nat
 | .r t=>[t]
 | .c _=>[]
def gB:Option X→List Nat
 | some x=>bj x
 | none=>[]
def oc:Bo→List Nat
 | .aP x | .un _ x | .pT _ x | .p3 x | .wo _ x | .len _ x | .box x | .ld _ _ x | .pU _ x | .BF _ _ _ x | .ext _ x | .mT x | .cap x | .yX x | .gW x | .yY x | .zy _ _ x=>bj x
 | .bin _ x y | .gV _ _ x y | .beq _ x y | .eqs _ _ x y | .st _ x y | .nT _ x y | .zu _ _ x y | .zw x y | .BG _ _ _ x y | .p4 _ _ _ x y | .del _ x y | .app _ _ _ x y | .BH _ _ _ x y | .mn x y | .mx x y | .BI _ x y | .zx _ x y | .BJ _ _ _ x y=>bj x++bj y
 | .pick x y z | .wq _ x y z=>bj x++bj y++bj z
 | .build _ ps=>ps.flatMap fun p=>bj p.2.2
 | .oX _ _ ps | .yZ _ _ ps=>ps.flatMap fun p=>bj p.2
 | .xr x lo hi=>bj x++gB lo++gB hi
 | .tN _ x lo hi mx=>bj x++gB lo++gB hi++gB mx
 | .BK _ x hi=>bj x++bj hi
 | .yW _ l=>l.flatMap bj
 | .alloc _ | .mS=>[]
def lP:tO→List Nat
 | .b b=>oc b
 | .call _ as=>as.flatMap bj
 | .aQ f as=>bj f++as.flatMap bj
def ff:Gd→List Nat
 | some (t,_)=>[t]
 | none=>[]
def bO (l:List Operand):List Nat:=l.filterMap fun | .tmp t=>some t|_=>none
def tmpsOf (o:Oper)(op:tO)(g:Gd):List Nat:=bO o.op.operands.toList++(ff g++lP op)
def bV (P:Program)(n:Nat)(ops:Array Oper)(mu:Bool)(o:Oper)(gX:List Rd):Option O :=
 match a8 P mu o.op,jM ops o.guard with
 | some op,some g=>if (tmpsOf o op g).all (·<n)&&(o.dst.all (·<n))then some ⟨o.dst,op,g,gX⟩else none
 | _,_=>none
def cp (P:Program)(n:Nat)(ops:Array Oper)(mu:Nat→Bool):List Nat→Option (List O)
 | []=>some []
 | i :: is=>match ops[i]? with
  | some o=>match bV P n ops (mu i) o [],cp P n ops mu is with
   | some o,some l=>some (o :: l)
   | _,_=>none
  | none=>none
def aU (o:Oper):List Nat:=(o.after.toList.filter fun e=>Region.binds .any e).map (·.on)
def dV (acc:List Nat)(o:Oper):Nat:=(aU o).foldl (fun s j=>s ||| 2^j ||| acc.getD j 0) 0
def bK:List Oper→List Nat→List Nat
 | [],acc=>acc
 | o :: l,acc=>bK l (acc++[dV acc o])
inductive Kl where|pure|read|make|wH
 deriving DecidableEq
def gC:Bo→Kl
 | .aP _ | .pick _ _ _ | .bin _ _ _ | .beq _ _ _ | .eqs _ _ _ _ | .un _ _ | .pT _ _ | .build _ _ | .oX _ _ _ | .pU _ _ | .BF _ _ _ _ | .nT _ _ _ | .zu _ _ _ _ | .zw _ _ | .BG _ _ _ _ _ | .xr _ _ _ | .tN _ _ _ _ _
 | .yW _ _ | .ext _ _ | .mn _ _ | .mx _ _ | .mT _=>.pure
 | .gV _ c _ _=>if c=.slice then .wH else .pure
 | .ld _ _ _ | .p4 _ _ _ _ _ | .len _ _ | .p3 _=>.read
 | .alloc _ | .mS=>.make
 | _=>.wH
def tY (o:O):Kl:=match o.op with
 | .b b=>match o.d with|some _=>gC b|none=>.wH
 | _=>.wH
structure It where
 i:Nat
 o:O
 early:Bool
 ts:List Nat
def dw (b:Nat):List It→List Rd
 | []=>[]
 | y :: l=>match y.early,y.o.d,y.o.op with
  | true,some d,.b op=>if gC op=.read∧b.testBit y.i=false then⟨d,op,y.o.g⟩ :: dw b l else dw b l
  | _,_,_=>dw b l
def nr:Op→Bool
 | .alloc _ | .makeMap _ none=>true
 | _=>false
def qT (b:Nat)(before:List It)(x:It)(oper:Oper):Bool :=
 ((aU oper).all fun j=>decide (j<x.i)&&before.any (·.i==j)) &&
 (before.all fun y=>y.early||b.testBit y.i) &&
 (before.all fun y=>y.i != x.i) &&
 (match x.o.d with
  | some d=>(before.all fun y=>y.o.d != some d&&(!y.ts.contains d||(!x.early&&b.testBit y.i)))&&!x.ts.contains d
  | none=>true) &&
 (before.all fun y=>match y.o.d with
  | some d=>!x.ts.contains d||b.testBit y.i
  | none=>true) &&
 (!x.early||(tY x.o != .wH&&(tY x.o != .make||nr oper.op)))
def nu (P:Program)(n:Nat)(ops:Array Oper)(mu:Nat→Bool)(b:Nat)(before:List It)(x:Nat×Bool):Option It :=
 match ops[x.1]? with
 | some o=>match bV P n ops (mu x.1) o (if x.2 then []else dw b before)with
  | some o'=>let y:It:=⟨x.1,o',x.2,tmpsOf o o'.op o'.g⟩
   if qT b before y o then some y else none
  | none=>none
 | none=>none
def bu (P:Program)(n:Nat)(ops:Array Oper)(mu:Nat→Bool)(bs:List Nat)(before:List It):List (Nat×Bool)→Option (List It)
 | []=>if (List.range ops.size).all fun i=>before.any (·.i==i)then some []else none
 | x :: l=>match nu P n ops mu (bs.getD x.1 0) before x with
  | some y=>(bu P n ops mu bs (before++[y]) l).map (y :: ·)
  | none=>none
structure An where
 mu:List (Nat×Nat)
 ord:List (Nat×List (Nat×Bool))
def av (P:Program)(n:Nat)(an:An)(top:Bool):Code→Option C
 | .skip=>some .skip
 | .region id ops false=>(cp P n ops (fun i=>an.mu.contains (id,i)) (List.range ops.size)).map .ops
 | .region id ops true=>match an.ord.find? (·.1==id)with
  | some (_,ord)=>(bu P n ops (fun i=>an.mu.contains (id,i)) (bK ops.toList []) [] ord).map fun dK=>.ops (dK.map (·.o))
  | none=>none
 | .seq a b=>match av P n an top a,av P n an top b with
  | some a,some b=>some (.seq a b)
  | _,_=>none
 | .cond c a b=>match ai c,av P n an top a,av P n an top b with
  | some x,some a,some b=>if (match c with | .tmp t=>decide (t<n)|_=>true)then some (.cond x a b)else none
  | _,_,_=>none
 | .block id a=>(av P n an top a).map (.block id)
 | .loop a=>(av P n an top a).map .loop
 | .exit id=>some (.exit id)
 | .ret=>some .ret
 | .rangeFunc g ps bc body=>match ai g,av P n an false bc,av P n an false body with
  | some x,some a,some b=>if top&&(bj x).all (·<n)&&ps.toList.all (·<n)then some (.bd n x ps.toList a b)else none
  | _,_,_=>none
 | _=>none
def fX (P:Program):List ResultVar→Option (List Rs)
 | []=>some []
 | .tmp t :: l=>(fX P l).map (.t t :: ·)
 | .cell a t :: l=>match P.underlying t,P.info? t with
  | some d,some i=>(fX P l).map (.cl a (if bz d then i.size else 1) (bz d) :: ·)
  | _,_=>none
def py (n:Nat):Rs→Bool
 | .t r | .cl r _ _=>r<n
def au (P:Program)(an:An)(f:FuncId):Option Fn :=
 match P.funcs[f]? with
 | some fn=>match fn.body,fX P fn.results.toList with
  | some c,some res=>match av P fn.ntmps an true c with
   | some c=>if bn P f&&decide (fn.params.size+fn.nfree≤fn.ntmps)&&res.all (py fn.ntmps)then some ⟨fn.ntmps,fn.params.size+fn.nfree,res,c⟩else none
   | none=>none
  | _,_=>none
 | none=>none
section
variable {R R':ah} {H:aa}
theorem aZ {x:X}(h:∀t∈bj x,R t=R' t):x.ev R=x.ev R':=by
 cases x with
 | r t=>exact h t (by simp[bj])
 | c v=>rfl
theorem eT {x:Option X}{d:Nat}(h:∀t∈gB x,R t=R' t):cU R d x=cU R' d x:=by
 cases x with
 | none=>rfl
 | some x=>simp only[cU];rw[aZ h]
theorem fY:∀(ps:List (Nat×Nat×X)),(∀t∈ps.flatMap (fun p=>bj p.2.2),R t=R' t)→bT R ps=bT R' ps
 | [],_=>rfl
 | (off,n,x) :: ps,h=>by
  simp only[bT]
  rw[aZ (x:=x) (R':=R') (fun t ht=>h t (by simp[ht])),fY ps (fun t ht=>h t (by rw[List.flatMap_cons];exact List.mem_append_right _ ht))]
theorem gP (n:Nat):∀(ps:List (Nat×X)) (es:List (List T)),(∀t∈ps.flatMap (fun p=>bj p.2),R t=R' t)→dA n es R ps=dA n es R' ps
 | [],_,_=>rfl
 | (i,x) :: ps,es,h=>by
  simp only[dA]
  rw[aZ (x:=x) (R':=R') (fun t ht=>h t (by simp[ht]))]
  split
  ·split
   ·exact gP n ps _ (fun t ht=>h t (by rw[List.flatMap_cons];exact List.mem_append_right _ ht))
   ·rfl
  ·rfl
theorem gQ (n:Nat):∀(ps:List (Nat×X)) (es:List (List T)),(∀t∈ps.flatMap (fun p=>bj p.2),R t=R' t)→dB n es R ps=dB n es R' ps
 | [],_,_=>rfl
 | (i,x) :: ps,es,h=>by
  simp only[dB]
  rw[aZ (x:=x) (R':=R') (fun t ht=>h t (by simp[ht]))]
  split
  ·split
   ·exact gQ n ps _ (fun t ht=>h t (by rw[List.flatMap_cons];exact List.mem_append_right _ ht))
   ·rfl
  ·rfl
theorem iI:∀(l:List X),(∀t∈l.flatMap bj,R t=R' t)→l.map (X.ev R)=l.map (X.ev R')
 | [],_=>rfl
 | x :: l,h=>by
  simp only[List.map_cons]
  rw[aZ (x:=x) (R':=R') (fun t ht=>h t (by simp[ht])),iI l (fun t ht=>h t (by rw[List.flatMap_cons];exact List.mem_append_right _ ht))]
theorem iJ {b:Bo}(h:∀t∈oc b,R t=R' t):ae R H b=ae R' H b:=by
 cases b<;>simp only[oc,List.mem_append]at h
 case build z ps=>simp only[ae];rw[fY ps h]
 case oX n z ps=>simp only[ae];rw[gP _ ps _ h]
 case yZ n z ps=>simp only[ae];rw[gQ _ ps _ h]
 case yW f l=>simp only[ae,wu];rw[iI l h]
 case alloc=>rfl
 case mS=>rfl
 case xr x lo hi =>
  have h1:=aZ (x:=x) (R:=R) (R':=R') (fun t ht=>h t (.inl (.inl ht)))
  have h2:=fun d=>eT (x:=lo) (d:=d) (R:=R) (R':=R') (fun t ht=>h t (.inl (.inr ht)))
  have h3:=fun d=>eT (x:=hi) (d:=d) (R:=R) (R':=R') (fun t ht=>h t (.inr ht))
  simp only[ae,h1,h2,h3]
 case tN n x lo hi mx =>
  have hm:∀m,mx=some m→m.ev R=m.ev R':=fun m e=>aZ (fun t ht=>h t (.inr (by subst e;exact ht)))
  have h1:=aZ (x:=x) (R:=R) (R':=R') (fun t ht=>h t (.inl (.inl (.inl ht))))
  have h2:=fun d=>eT (x:=lo) (d:=d) (R:=R) (R':=R') (fun t ht=>h t (.inl (.inl (.inr ht))))
  have h3:=fun d=>eT (x:=hi) (d:=d) (R:=R) (R':=R') (fun t ht=>h t (.inl (.inr ht)))
  simp only[ae,h1,h2,h3]
  cases mx with
  | none =>
   cases x.ev R' with
   | sl k es=>dsimp only;cases cU R' 0 lo with
    | none=>rfl
    | some l=>cases cU R' es.length hi<;>rfl
   | aO b off len n'=>rfl
   | _=>rfl
  | some m =>
   cases x.ev R' with
   | sl k es=>dsimp only;cases cU R' 0 lo with
    | none=>rfl
    | some l=>cases cU R' es.length hi with
     | none=>rfl
     | some h=>dsimp only;rw[hm m rfl]
   | aO b off len n'=>rfl
   | _=>rfl
 all_goals first
  | (simp only[ae,aZ h];done)
  | (rename_i x;simp only[ae];rw[aZ (x:=x) (R':=R') h])
  | (rename_i x y;simp only[ae];rw[aZ (x:=x) (R':=R') (fun t ht=>h t (.inl ht)),aZ (x:=y) (R':=R') (fun t ht=>h t (.inr ht))])
  | (rename_i x y z;simp only[ae];rw[aZ (x:=x) (R':=R') (fun t ht=>h t (.inl (.inl ht))),aZ (x:=y) (R':=R') (fun t ht=>h t (.inl (.inr ht))),aZ (x:=z) (R':=R') (fun t ht=>h t (.inr ht))])
theorem eH {g:Gd}(h:∀t∈ff g,R t=R' t):aq R g=aq R' g:=by
 cases g with
 | none=>rfl
 | some p=>obtain⟨t,b⟩:=p;simp only[aq];rw[h t (by simp[ff])]
theorem lQ {b:Bo}(hk:gC b=.pure)(H2:aa):ae R H2 b=(ae R H b).map fun p=>(p.1,H2):=by
 cases b<;>simp only[gC]at hk<;>(try (cases hk;done))<;>simp only[ae]
 case tN n x lo hi mx =>
  cases x.ev R with
  | sl k es =>
   dsimp only
   cases cU R 0 lo with
   | none=>rfl
   | some l=>cases cU R es.length hi with
    | none=>rfl
    | some h=>cases mx with
     | none=>dsimp only;split<;>rfl
     | some m=>dsimp only;cases aR (m.ev R)with
      | none=>rfl
      | some m=>dsimp only;split<;>rfl
  | aO b off len n' =>
   dsimp only
   cases cU R 0 lo with
   | none=>rfl
   | some l=>cases cU R len hi with
    | none=>rfl
    | some h=>cases mx with
     | none=>dsimp only;split<;>rfl
     | some m=>rfl
  | bS b off len n' c =>
   dsimp only
   cases cU R 0 lo with
   | none=>rfl
   | some l=>cases cU R len hi with
    | none=>rfl
    | some h=>cases mx with
     | none=>dsimp only;split<;>rfl
     | some m=>rfl
  | _=>rfl
 all_goals (try rfl)
 all_goals (try (simp[Option.map_map,Function.comp_def];done))
 all_goals (try (simp[Option.map_map,Option.map_bind,Function.comp_def];done))
 all_goals (repeat' split)
 all_goals (try (simp_all [Option.map_map,Function.comp_def];done))
theorem eU {b:Bo}{v:T}{H':aa}(hk:gC b=.pure)(h:ae R H b=some (v,H')):H'=H∧∀H2,ae R H2 b=some (v,H2):=by
 constructor
 ·have h1:=lQ (R:=R) (H:=H) hk H
  rw[h]at h1;simp at h1;exact h1
 ·intro H2;rw[lQ (H:=H) hk H2,h];rfl
theorem dW {l:aa}{b:Nat}{x:B}(h:H[b]?=some x):(H++l)[b]?=some x:=by
 rw[List.getElem?_append_left (List.getElem?_eq_some_iff.1 h).1];exact h
theorem vC {n:Nat}{t:T}{cs:List T}(l:aa)(h:gM H n t=some cs):gM (H++l) n t=some cs:=by
 unfold gM at *
 cases t<;>simp only[]at h ⊢<;>try (first|exact h|cases h)
 rename_i b off
 cases hb:H[b]? with
 | none=>simp[hb]at h
 | some x=>rw[hb]at h;rw[dW hb];exact h
theorem pz {t:T}{es:List (T×T)}(l:aa)(h:ct H t=some es):ct (H++l) t=some es:=by
 unfold ct at *
 cases t<;>simp only[]at h ⊢<;>try (first|exact h|cases h)
 rename_i b
 cases hb:H[b]? with
 | none=>simp[hb]at h
 | some x=>rw[hb]at h;rw[dW hb];exact h
theorem qU {t:T}{k:Lc}{n:Nat}(l:aa)(h:eo H k t=some n):eo (H++l) k t=some n:=by
 unfold eo at *
 cases k<;>cases t<;>simp only[]at h ⊢<;>try (first|exact h|cases h)
 rename_i b
 cases hb:H[b]? with
 | none=>simp[hb]at h
 | some x=>rw[hb]at h;rw[dW hb];exact h
theorem lR {t:T}{n:Nat}{es:List (List T)}(l:aa)(h:aI H n t=some es):aI (H++l) n t=some es:=by
 unfold aI at *
 cases t<;>simp only[]at h ⊢<;>try (first|exact h|cases h)
 rename_i b off len n'
 cases hb:H[b]? with
 | none=>simp[hb]at h
 | some x=>rw[hb]at h;rw[dW hb];exact h
theorem eV {b:Bo}{v:T}{H':aa}(hk:gC b=.read)(h:ae R H b=some (v,H')):H'=H∧∀l,ae R (H++l) b=some (v,H++l):=by
 cases b<;>simp only[gC]at hk<;>(try (cases hk;done))<;>simp only[ae]at h ⊢
 case gV=>split at hk<;>cases hk
 case p3 x =>
  cases he:aI H 1 (x.ev R)with
  | none=>simp[he]at h
  | some es =>
   rw[he]at h
   refine⟨?_,fun l=>?_⟩
   ·dsimp only at h;split at h
    ·cases h
    ·simp only[Option.map_eq_some_iff,Prod.mk.injEq]at h;obtain⟨_,_,_,e⟩:=h;exact e.symm
   ·rw[lR l he]
    dsimp only at h ⊢;split at h
    ·cases h
    ·simp only[Option.map_eq_some_iff,Prod.mk.injEq]at h ⊢
     obtain⟨a,h1,h2,_⟩:=h
     rename_i aF
     exact⟨a,h1,h2,trivial⟩
 case len k x =>
  simp only[Option.map_eq_some_iff,Prod.mk.injEq]at h ⊢
  obtain⟨a,h1,h2,h3⟩:=h
  exact⟨h3.symm,fun l=>⟨a,qU l h1,h2,trivial⟩⟩
 case ld n ag x =>
  cases he:gM H n (x.ev R)with
  | none=>simp[he]at h
  | some cs =>
   simp only[he,Option.map_eq_some_iff,Prod.mk.injEq]at h
   obtain⟨a,h1,h2,h3⟩:=h
   exact⟨h3.symm,fun l=>by simp[vC l he,h1,h2]⟩
 case p4 kt z ok m k =>
  split at h
  ·rename_i hh
   simp only[hh,if_true]
   cases he:ct H (m.ev R)with
   | none=>simp[he]at h
   | some es =>
    simp only[he]at h
    simp only[pz _ he]
    split at h
    ·split at h
     ·cases h;exact⟨rfl,fun l=>rfl⟩
     ·cases h
    ·cases h;exact⟨rfl,fun l=>rfl⟩
    ·cases h
  ·cases h
end
theorem lS:∀(l:List Oper) (acc:List Nat),∃rest,bK l acc=acc++rest∧rest.length=l.length
 | [],acc=>⟨[],by simp[bK],rfl⟩
 | o :: l,acc=>by
  obtain⟨r,h,hl⟩:=lS l (acc++[dV acc o])
  exact⟨dV acc o :: r,by simp[bK,h],by simp[hl]⟩
theorem lT:∀(l:List Oper) (acc:List Nat) (k:Nat) (o:Oper),l[k]?=some o→(bK l acc)[acc.length+k]?=some (dV ((bK l acc).take (acc.length+k)) o)
 | [],_,_,_,h=>by simp at h
 | x :: l,acc,0,o,h=>by
  simp at h;subst h
  obtain⟨r,h,_⟩:=lS l (acc++[dV acc x])
  simp[bK,h]
 | x :: l,acc,k+1,o,h=>by
  have:=lT l (acc++[dV acc x]) k o (by simpa using h)
  simp only[List.length_append,List.length_singleton]at this
  simp only[bK]
  rw[show acc.length+(k+1)=acc.length+1+k by omega]
  exact this
theorem jN (acc:List Nat)(t:Nat):∀(l:List Nat) (s:Nat),(l.foldl (fun s j=>s ||| 2^j ||| acc.getD j 0) s).testBit t=true→s.testBit t=true∨∃j∈l,t=j∨(acc.getD j 0).testBit t=true
 | [],s,h=>.inl h
 | x :: l,s,h=>by
  rcases jN acc t l _ h with h|⟨j,hj,h⟩
  ·simp only[Nat.testBit_or,Bool.or_eq_true,Nat.testBit_two_pow,decide_eq_true_eq]at h
   rcases h with(h|h)|h
   ·exact .inl h
   ·exact .inr ⟨x,by simp,.inl h.symm⟩
   ·exact .inr ⟨x,by simp,.inr h⟩
  ·exact .inr ⟨j,by simp[hj],h⟩
theorem lU {acc:List Nat}{o:Oper}{t:Nat}(h:(dV acc o).testBit t=true):∃j∈aU o,t=j∨(acc.getD j 0).testBit t=true:=by
 rcases jN acc t _ _ h with h|h
 ·simp at h
 ·exact h
theorem lV {ops:Array Oper}{D:Nat→Prop}(hD:∀i o,ops[i]?=some o→D i→∀j∈aU o,j<i∧D j) :
  ∀(i:Nat) (o:Oper) (t:Nat),ops[i]?=some o→(∀j∈aU o,j<i∧D j)→((bK ops.toList []).getD i 0).testBit t=true→D t:=by
 intro i
 induction i using Nat.strongRecOn with
 | _ i ih =>
  intro o t ho hp hb
  have h1:=lT ops.toList [] i o (by simpa using ho)
  simp only[List.length_nil,Nat.zero_add]at h1
  rw[List.getD_eq_getElem?_getD,h1,Option.getD_some]at hb
  obtain⟨j,hj,h⟩:=lU hb
  obtain⟨aA,DX⟩:=hp j hj
  rcases h with rfl|h
  ·exact DX
  ·rw[List.getD_eq_getElem?_getD,List.getElem?_take,if_pos aA,←List.getD_eq_getElem?_getD]at h
   have fe:i<ops.size:=(Array.getElem?_eq_some_iff.1 ho).1
   have DY:ops[j]?=some ops[j]:=Array.getElem?_eq_getElem (Nat.lt_trans aA fe)
   exact ih j aA ops[j] t DY (fun k hk=>hD j _ DY DX k hk) h
def Fw (r:Option Nat):Fence:={ fn:=fun _=>True,depth:=none,alive:=false,round:=r }
theorem lW {r r':Option Nat}{n:Nat}{P:Program}{f:FuncId}{args:Array Value}{w:World}{K:Ending→World→Prop}(h:CallsIn (Fw r) n P f args w K):CallsIn (Fw r') n P f args w K:=h
section
variable {P:Program} {w0 w:World} {g:Ctx} {H H':aa} {R:ah} {a:Act} {n:Nat} {ops:Array Oper}
theorem ak {mu:Bool}{o:Oper}{st:List Rd}{y:O}(h:bV P n ops mu o st=some y):∃op gd,a8 P mu o.op=some op∧jM ops o.guard=some gd∧y=⟨o.dst,op,gd,st⟩ ∧
  (∀t∈tmpsOf o op gd,t<n)∧∀d,o.dst=some d→d<n:=by
 unfold bV at h
 cases h1:a8 P mu o.op with
 | none=>simp[h1]at h
 | some op=>cases h2:jM ops o.guard with
  | none=>simp[h1,h2]at h
  | some gd =>
   simp only[h1,h2]at h
   split at h
   ·rename_i hh
    simp only[Bool.and_eq_true,List.all_eq_true,decide_eq_true_eq]at hh
    exact⟨op,gd,rfl,rfl,(Option.some.inj h).symm,hh.1,fun d hd=>by have:=hh.2;simp[hd]at this;exact this⟩
   ·cases h
def cB (g:Ctx)(w:World)(R:ah)(a:Act)(ts:List Nat):Prop:=∀t∈ts,VR g w (R t) (a.tmps.getD t undef)
theorem cB.sub {ts xz:List Nat}(h:cB g w R a ts)(hs:∀t∈xz,t∈ts):cB g w R a xz:=fun t ht=>h t (hs t ht)
theorem jO {l:List Operand}(h:cB g w R a (bO l)):RV g w R a.eval l:=by
 intro x hx y hy
 cases x with
 | tmp t=>simp only[ai,Option.some.injEq]at hy;subst hy;exact h t (by simp only[bO,List.mem_filterMap];exact⟨_,hx,rfl⟩)
 | const v =>
  simp only[ai,Option.map_eq_some_iff]at hy
  obtain⟨t,h1,rfl⟩:=hy
  exact eR h1
 | «global» x=>simp[ai]at hy
 | func f=>simp only[ai,Option.some.injEq]at hy;subst hy;exact .fn rfl (by simp)
theorem gD {o:Oper}{gd:Gd}(hg:jM ops o.guard=some gd)(hn:a.tmps.size=n)(hd:∀t∈ff gd,t<n)(h:cB g w R a (ff gd)):Region.wanted o (yielded ops a.tmps)=aq R gd:=by
 unfold Region.wanted
 cases ho:o.guard with
 | none=>rw[ho]at hg;simp only[jM,Option.some.injEq]at hg;subst hg;rfl
 | some p =>
  obtain⟨j,b⟩:=p
  rw[ho]at hg
  simp only[jM]at hg
  cases fA:(ops[j]?).bind (·.dst)with
  | none=>simp[fA]at hg
  | some d =>
   simp only[fA,Option.some.injEq]at hg;subst hg
   have hv:=h d (by simp[ff])
   have aA:d<a.tmps.size:=by rw[hn];exact hd d (by simp[ff])
   simp only[yielded,fA,Option.bind_some,aq]
   rw[Array.getD_eq_getD_getElem?,Array.getElem?_eq_getElem aA,Option.getD_some]at hv
   rw[Array.getElem?_eq_getElem aA]
   generalize R d=t at *
   generalize a.tmps[d]=v at *
   cases hv<;>simp
theorem dX {mu:Bool}{o:Op}{y:tO}(h:a8 P mu o=some y):bF P mu o=some y∨(y=.aQ (.c .dz) []∧wG o=true):=by
 unfold a8 at h
 split at h
 ·rename_i e;cases h;exact .inl e
 ·split at h
  ·rename_i hc;cases h
   simp only[Bool.and_eq_true]at hc
   exact .inr ⟨rfl,hc.2⟩
  ·cases h
theorem cR {mu:Bool}{o:Op}{op:tO}(h:a8 P mu o=some op):∀c,o≠.defer c:=by
 rintro c rfl
 rcases dX h with h|⟨_,h⟩
 ·simp[bF,aB]at h
 ·cases h
theorem dF {mu:Bool}{o:Op}{b:Bo}(h:a8 P mu o=some (.b b)):aB P mu o=some b:=by
 replace h:=(dX h).resolve_right fun e=>by cases e.1
 unfold bF at h
 split at h
 ·split at h
  ·simp only[Option.map_eq_some_iff]at h;obtain⟨_,_,h⟩:=h;cases h
  ·split at h
   ·rename_i h1 h2
    cases h
    simp only[aB,h1,h2]
   ·cases h
 ·simp only[Option.map_eq_some_iff]at h;obtain⟨_,_,h⟩:=h;cases h
 ·simp only[Option.map_eq_some_iff]at h;obtain⟨x,h1,h⟩:=h;cases h;exact h1
theorem qV {r:Option Nat}{mu:Bool}{o:Oper}{b:Bo}{t:T}(hc:a8 P mu o.op=some (.b b))(h:SR w0 g H w)(hr:cB g w R a (bO o.op.operands.toList))(he:ae R H b=some (t,H')) :
  ∃v w' g',(∀(K:Act→World→Prop) (Q:Exit→Act→World→Prop),K (a.put o.dst v) w'→o.wpIn (Fw r) 0 P a w K Q)∧Le g w g' w'∧SR w0 g' H' w'∧VR g' w' t v∧Fr g H g' H':=by
 obtain⟨nx,v,w',g',h1,h2,h3⟩:=x9 (fun _=>rfl) (dF hc) h (jO hr) he
 refine⟨v,w',g',fun K Q hk=>⟨fun _ _=>trivial,?_⟩,h3⟩
 rw[Oper.semAt_eq _ _ _ (cR hc),h1]
 rcases h2 with rfl|⟨rfl,rfl⟩
 ·exact hk
 ·exact hk
theorem nw {mu:Bool}{o:Op}{x:X}(h:aB P mu o=some (.gW x)):∃it,o=.next it false∧ai it=some x:=by
 cases o
 case next it str =>
  cases str<;>simp only[aB]at h<;>(try (cases h;done))
  simp only[Option.map_eq_some_iff,Bo.gW.injEq]at h
  obtain⟨y,h1,rfl⟩:=h
  exact⟨it,rfl,h1⟩
 case range ty m =>
  simp only[aB]at h
  split at h
  ·simp only[Option.map_eq_some_iff]at h;obtain⟨_,_,h⟩:=h;cases h
  ·cases h
 case makeMap ty r =>
  cases r<;>simp only[aB]at h<;>cases h
 case makeFunc fn first ew =>
  cases fn<;>simp only[aB]at h<;>(try (cases h;done))
  split at h
  ·simp only[Option.map_eq_some_iff]at h;obtain⟨_,_,h⟩:=h;cases h
  ·cases h
 case call c =>
  obtain⟨callee,args,dq⟩:=c
  cases callee
  case value x =>
   cases x<;>simp only[aB]at h<;>(try (cases h;done))
   split at h<;>cases h
  case builtin b =>
   simp only[aB,Option.bind_eq_some_iff]at h
   obtain⟨l,_,h⟩:=h
   unfold dE at h
   split at h
   ·have hz:∀tl l b',lL P tl l=some b'→b'≠.gW x:=by
     rintro tl l b' hb rfl
     simp only[lL]at hb
     (repeat' split at hb)<;>first|(cases hb;done)|(simp at hb;done)
    split at h
    ·rename_i b' hb;exact absurd (Option.some.inj h) (hz _ _ _ hb)
    ·simp only[eS]at h
     (repeat' split at h)<;>first|(cases h;done)|(simp at h;done)
   all_goals ((repeat' split at h)<;>first|(cases h;done)|(simp at h;done))
  all_goals (simp only[aB]at h;cases h)
 all_goals simp only[aB]at h
 all_goals first|(cases h;done)|(simp only[Option.map_eq_some_iff]at h;obtain⟨_,_,h⟩:=h;cases h;done)|skip
 all_goals (try simp only[Option.bind_eq_some_iff]at h)
 all_goals (try (obtain⟨_,_,h⟩:=h))
 all_goals (try simp only[qL,jJ,jI,fx,nj,gx,pn,gy,po,pq,nk]at h)
 all_goals first|((repeat' split at h)<;>first|(cases h;done)|(simp at h;done))|skip
theorem qW {r:Option Nat}{mu:Bool}{o:Oper}{x:X}{b bi:Nat}{es:List (T×T)}{ix:List Nat}{cur:Option Nat}(hc:a8 P mu o.op=some (.b (.gW x)))(h:SR w0 g H w)(hr:cB g w R a (bO o.op.operands.toList))
  (hx:x.ev R=.ptr bi 0) (hb:H[b]?=some (.cr es ix bi cur)) :
  ∃t H' v w' g',fM H b bi es ix t H'∧(∀(K:Act→World→Prop) (Q:Exit→Act→World→Prop),K (a.put o.dst v) w'→o.wpIn (Fw r) 0 P a w K Q)∧Le g w g' w'∧SR w0 g' H' w'∧VR g' w' t v∧Fr g H g' H':=by
 have jH:=cR hc
 obtain⟨it,ho,h1⟩:=nw (dF hc)
 have hv:=jO hr it (by rw[ho];simp[Op.operands]) x h1
 rw[hx]at hv
 obtain⟨t,H',hn,v,w',g',aK,h3⟩:=u4 (P:=P) (ty:=o.type) h hv hb
 refine⟨t,H',v,w',g',hn,fun K Q hk=>⟨fun _ _=>trivial,?_⟩,h3⟩
 rw[Oper.semAt_eq _ _ _ jH]
 have e:(execOp a.eval o).run P w=.ok (.value v) w':=by
  obtain⟨dst,op,ty,pos,after,guard⟩:=o
  simp only at ho;subst ho
  simp[execOp,aK]
 rw[e]
 exact hk
theorem dY {f:FuncId}{args:Array Value}(hf:bn P f=true):(callFunc f args).run P w=.ok (.enter f args) w:=by
 unfold bn at hf
 cases h:P.funcs[f]? with
 | none=>simp[h]at hf
 | some fn =>
  simp only[h,Bool.and_eq_true,bne_iff_ne,ne_eq]at hf
  obtain⟨c,hb⟩:=Option.isSome_iff_exists.1 hf.2
  simp[callFunc,h,hf.1,hb]
def ny (r:Option Nat)(P:Program)(o:Oper)(a:Act)(K:Act→World→Prop):Ending→World→Prop:=fun e w'=>∃v,e=.returned v∧K (a.put o.dst v) w'
theorem upon_enter {r:Option Nat}{o:Oper}{f:FuncId}{args:Array Value}{K:Act→World→Prop}{Q:Exit→Act→World→Prop}(h:CallsIn (Fw none) 0 P f args w (ny r P o a K)) :
  o.uponIn (Fw r) 0 P a K Q (.ok (.enter f args) w):=by
 rw[Oper.uponIn_enter]
 refine⟨fun h=>by simp[Fw]at h,(lW h).mono fun e w' he=>?_⟩
 obtain⟨v,rfl,hk⟩:=he
 exact hk
theorem kL {mu:Bool}{op:Op}{f:Nat}{as:List X}(h:a8 P mu op=some (.call f as)) :
  ∃args dq,op=.call { callee:=.value (.func f),args:=args,argTypes:=dq }∧bn P f=true∧cd args.toList=some as:=by
 replace h:=(dX h).resolve_right fun e=>by cases e.1
 cases op
 case call c =>
  obtain⟨callee,args,dq⟩:=c
  cases callee
  case value x =>
   cases x
   case func f' =>
    simp only[bF]at h
    split at h
    ·rename_i hc
     simp only[Option.map_eq_some_iff]at h
     obtain⟨tP,h1,h2⟩:=h
     cases h2
     exact⟨args,dq,rfl,hc,h1⟩
    ·split at h<;>cases h
   all_goals simp[bF,aB]at h
  all_goals (simp only[bF,Option.map_eq_some_iff]at h;obtain⟨_,_,h⟩:=h;cases h)
 all_goals (simp only[bF,Option.map_eq_some_iff]at h;obtain⟨_,_,h⟩:=h;cases h)
theorem fg {mu:Bool}{op:Op}{x:X}{as:List X}(h:a8 P mu op=some (.aQ x as))(hx:x≠.c .dz) :
  ∃t args dq,x=.r t∧op=.call { callee:=.value (.tmp t),args:=args,argTypes:=dq }∧cd args.toList=some as:=by
 replace h:=(dX h).resolve_right fun e=>by cases e.1;exact hx rfl
 cases op
 case call c =>
  obtain⟨callee,args,dq⟩:=c
  cases callee
  case value x =>
   cases x
   case tmp t =>
    simp only[bF,Option.map_eq_some_iff]at h
    obtain⟨tP,h1,h2⟩:=h
    cases h2
    exact⟨t,args,dq,rfl,rfl,h1⟩
   case func f' =>
    simp only[bF]at h
    split at h
    ·simp only[Option.map_eq_some_iff]at h
     obtain⟨tP,h1,h2⟩:=h
     cases h2
    ·split at h<;>cases h
   all_goals simp[bF,aB]at h
  all_goals (simp only[bF,Option.map_eq_some_iff]at h;obtain⟨_,_,h⟩:=h;cases h)
 all_goals (simp only[bF,Option.map_eq_some_iff]at h;obtain⟨_,_,h⟩:=h;cases h)
theorem pA {r:Option Nat}{mu:Bool}{o:Oper}{f:Nat}{as:List X}(hc:a8 P mu o.op=some (.call f as))(hr:cB g w R a (bO o.op.operands.toList)) :
  ∃args:List Value,ax g w (as.map (X.ev R)) args ∧
   ∀(K:Act→World→Prop) (Q:Exit→Act→World→Prop),bn P f=true→CallsIn (Fw none) 0 P f args.toArray w (ny r P o a K)→o.wpIn (Fw r) 0 P a w K Q:=by
 have jH:=cR hc
 obtain⟨args,dq,ho,dy,h1⟩:=kL hc
 have hv:=cf (ρ:=a.eval) args.toList as h1 (jO (hr.sub fun t ht=>by
  simp only[bO,List.mem_filterMap]at ht ⊢
  obtain⟨x,hx,e⟩:=ht
  exact⟨x,by rw[ho];simp only[Op.operands,Call.operands];simp at hx;simp[hx],e⟩))
 refine⟨args.toList.map a.eval,hv,fun K Q _ hk=>⟨fun _ _=>trivial,?_⟩⟩
 rw[Oper.semAt_eq _ _ _ jH]
 have aK:(execOp a.eval o).run P w=.ok (.enter f (args.toList.map a.eval).toArray) w:=by
  have:=dY (P:=P) (w:=w) (args:=(args.toList.map a.eval).toArray) dy
  have e2:(args.toList.map a.eval).toArray=args.map a.eval:=by rw[←Array.toList_map]
  rw[e2]at this ⊢
  simp only[execOp,ho,resolve,Act.eval,Deferred.ofValue,invoke]
  simpa using this
 rw[aK]
 exact upon_enter hk
theorem nz {r:Option Nat}{mu:Bool}{o:Oper}{x:X}{f:Nat}{cs:List T}{as:List X}(hc:a8 P mu o.op=some (.aQ x as))(hr:cB g w R a (bO o.op.operands.toList))(hx:x.ev R=.fn f cs) :
  ∃args:List Value,ax g w (as.map (X.ev R)++cs) args ∧
   ∀(K:Act→World→Prop) (Q:Exit→Act→World→Prop),bn P f=true→CallsIn (Fw none) 0 P f args.toArray w (ny r P o a K)→o.wpIn (Fw r) 0 P a w K Q:=by
 have jH:=cR hc
 obtain⟨t,args,dq,rfl,ho,h1⟩:=fg hc (by rintro rfl;cases hx)
 have hv:=cf (ρ:=a.eval) args.toList as h1 (jO (hr.sub fun t ht=>by
  simp only[bO,List.mem_filterMap]at ht ⊢
  obtain⟨x,hx,e⟩:=ht
  exact⟨x,by rw[ho];simp only[Op.operands,Call.operands];simp at hx;simp[hx],e⟩))
 have hf:=hr t (by rw[ho];simp only[bO,List.mem_filterMap];exact⟨.tmp t,by simp[Op.operands,Call.operands],rfl⟩)
 simp only[X.ev]at hx
 rw[hx]at hf
 generalize px:a.tmps.getD t undef=vf at hf
 cases hf with
 | @fn _ _ vs hl lg =>
  refine⟨args.toList.map a.eval++vs.toList,hv.append ⟨by simp[hl],fun i t v ha hb=>lg i t v ha (by simpa using hb)⟩,fun K Q dy hk=>⟨fun _ _=>trivial,?_⟩⟩
  rw[Oper.semAt_eq _ _ _ jH]
  have aK:(execOp a.eval o).run P w=.ok (.enter f (args.toList.map a.eval++vs.toList).toArray) w:=by
   have:=dY (P:=P) (w:=w) (args:=(args.toList.map a.eval++vs.toList).toArray) dy
   have e2:(args.toList.map a.eval++vs.toList).toArray=args.map a.eval++vs:=by rw[←Array.toList_map];simp
   rw[e2]at this ⊢
   have e:a.eval (.tmp t)=.func (.func f) #[] vs:=px
   simp only[execOp,ho,resolve,e,Deferred.ofValue,invoke]
   simpa using this
  rw[aK]
  exact upon_enter hk
end
def fh:T→Option Nat
 | .ptr b _ | .map b=>some b
 | _=>none
def dZ (R:ah)(y:It):Option Nat:=match y.o.d,y.o.op with
 | some d,.b (.alloc _)=>fh (R d)
 | some d,.b .mS=>fh (R d)
 | _,_=>none
def jo (g:Ctx)(N:Nat)(R:ah)(H:aa)(y:It):Prop :=
 (aq R y.o.g=false∧∀d,y.o.d=some d→R d=ar) ∨
 (aq R y.o.g=true∧∃d b,y.o.d=some d∧y.o.op=.b b∧(
  ((gC b=.pure∨gC b=.read)∧ae R H b=some (R d,H)) ∨
  (∃k z,b=.alloc z∧R d=.ptr k 0∧H[k]?=some (.cells z)∧g.φ k=none∧N≤k) ∨
  (∃k,b=.mS∧R d=.map k∧H[k]?=some (.map [])∧g.φ k=none∧N≤k)))
theorem jo.mono {g g':Ctx}{N:Nat}{R R':ah}{H H':aa}{y:It}(h:jo g N R H y)(hg:∀t∈ff y.o.g,R' t=R t)(hr:∀t∈lP y.o.op,R' t=R t)(hd:∀d,y.o.d=some d→R' d=R d)
  (z5:∀d b,aq R y.o.g=true→y.o.d=some d→y.o.op=.b b→gC b=.read→ae R H b=some (R d,H)→ae R H' b=some (R d,H'))
  (lh:∀k x,dZ R y=some k→H[k]?=some x→(∀e,x≠.tok e)→g.φ k=none→N≤k→H'[k]?=some x∧g'.φ k=none):jo g' N R' H' y:=by
 have hw:aq R' y.o.g=aq R y.o.g:=eH hg
 rcases h with⟨h1,h2⟩|⟨h1,d,b,h2,h3,h4⟩
 ·exact .inl ⟨hw▸h1,fun d e=>by rw[hd d e];exact h2 d e⟩
 ·refine .inr ⟨hw▸h1,d,b,h2,h3,?_⟩
  rw[hd d h2]
  rw[h3]at hr
  rcases h4 with⟨hk,he⟩|⟨k,z,rfl,e1,e2,e3,e4⟩|⟨k,rfl,e1,e2,e3,e4⟩
  ·refine .inl ⟨hk,?_⟩
   rw[iJ (R:=R') (R':=R) hr]
   rcases hk with hk|hk
   ·exact(eU hk he).2 H'
   ·exact z5 d b h1 h2 h3 hk he
  ·have hm:=lh k _ (by simp[dZ,h2,h3,e1,fh]) e2 (by simp) e3 e4
   exact .inr (.inl ⟨k,z,rfl,e1,hm.1,hm.2,e4⟩)
  ·have hm:=lh k _ (by simp[dZ,h2,h3,e1,fh]) e2 (by simp) e3 e4
   exact .inr (.inr ⟨k,rfl,e1,hm.1,hm.2,e4⟩)
theorem iK (a:Act)(d:Option Nat)(v:Value)(t:Nat)(hd:∀e,d=some e→e<a.tmps.size):(a.put d v).tmps.getD t undef=if d=some t then v else a.tmps.getD t undef:=by
 cases d with
 | none=>simp[Act.put]
 | some d =>
  have aA:=hd d rfl
  simp only[Act.put]
  by_cases e:d=t
  ·subst e;simp[Array.getD_eq_getD_getElem?,aA]
  ·rw[if_neg (by simpa using e),Array.getD_eq_getD_getElem?,Array.getD_eq_getD_getElem?,Array.getElem?_setIfInBounds_ne e]
theorem iL (a:Act)(d:Option Nat)(v:Value):(a.put d v).tmps.size=a.tmps.size:=by cases d<;>simp[Act.put]
theorem db (a:Act)(d:Option Nat)(v:Value):(a.put d v).defers=a.defers:=by cases d<;>simp[Act.put]
theorem aN {R:ah}{d:Option Nat}{v:T}{t:Nat}(h:d≠some t):aw R d v t=R t:=by
 cases d with
 | none=>rfl
 | some d=>simp only[aw,gg];rw[if_neg];rintro rfl;exact h rfl
theorem dr {R:ah}{v:T}{t:Nat}:aw R (some t) v t=v:=by simp[aw,gg]
theorem SR.CE {w0 w:World}{g:Ctx}{H:aa}(h:SR w0 g H w){x:B}(hx:(∃cs,x=.cells cs)∨∃es,x=.map es):SR w0 g (H++[x]) w:=by
 refine⟨h.size,h.eu,h.o7,h.fresh,fun b y hy=>by have:=h.gZ b y hy;simp;omega,fun t e y hy=>by have:=h.cu t e y hy;simp;omega,fun b y hy=>?_,h.env⟩
 by_cases hb:b=H.length
 ·subst hb
  rw[bh]at hy
  have hn:=h.tV (b:=H.length) (Nat.le_refl _)
  cases hy
  rcases hx with⟨cs,rfl⟩|⟨es,rfl⟩<;>intro r o q hq<;>rw[hn]at hq<;>cases hq
 ·exact h.dv b y (aL hb hy)
theorem SR.drew {w0 w w':World}{g:Ctx}{H:aa}(h:SR w0 g H w)(tr:Tr w w' cz cW)(hz:w'.heap.size=w.heap.size):SR w0 g H w'∧Le g w g w':=by
 have le:Le g w g w':=Le.cJ tr (fun _ _ h=>h) (fun _ _ h=>h) (fun _ _ _ h=>h) (fun _ _ hs=>hs.elim)
 refine⟨?_,le⟩
 exact h.step (fun _=>False) tr le (fun _ _ hs=>hs.elim) (fun _ hm=>hm.elim) (fun r o hr=>h.fresh r o (by omega)) h.gZ h.cu (fun _ _ _=>rfl) (fun _ _ _ _=>⟨id,id⟩) (fun _ _ _ _=>rfl) (fun b x hx=>.inl ⟨id,hx⟩)
section
variable {P:Program} {w0 w:World} {g:Ctx} {H:aa} {a:Act}
theorem lX {r:Option Nat}{mu:Bool}{o:Oper}{z:List T}{k:Nat}(hm:nr o.op=true)(hc:a8 P mu o.op=some (.b (.alloc z)))(h:SR w0 g H w)(hk:H[k]?=some (.cells z))(hn:g.φ k=none) :
  ∃v w' g',(∀(K:Act→World→Prop) (Q:Exit→Act→World→Prop),K (a.put o.dst v) w'→o.wpIn (Fw r) 0 P a w K Q)∧Le g w g' w'∧SR w0 g' H w'∧VR g' w' (.ptr k 0) v∧∀b,g.φ b=none→b≠k→g'.φ b=none:=by
 obtain⟨dst,op,ty,pos,after,guard⟩:=o
 simp only at hm hc
 have hc:=dF hc
 unfold nr at hm
 split at hm
 ·rename_i t _
  simp only[aB,Option.map_eq_some_iff]at hc
  obtain⟨z',h1,h2⟩:=hc
  cases h2
  obtain⟨i,zv,h2,h3,h4⟩:=cg h1
  obtain⟨hv,ho⟩:=bp (g:=g) (w:=w) _ _ h4
  have tr:Tr w w cz cW:=Tr.refl w
  obtain⟨le,sr,fr⟩:=h.mut (c:=zv.cells) (ty:=t) (H':=H) (b:=k) tr rfl hk hn (fun b' x _ hx=>.inl hx) (Nat.le_refl _) (fun b' x hx _ _ _=>hx) (by simpa using hv.xJ ho)
  refine⟨.pointer (some ⟨w.heap.size,0,none⟩),_,_,fun K Q hk=>⟨fun _ _=>trivial,?_⟩,le,sr,.ptr (r:=w.heap.size) (o:=0) (q:=zv.cells.size) (by simp[Ctx.at]),fun b hb aF=>by simp only[Ctx.at,Ctx.row];rw[if_neg aF];exact hb⟩
  rw[Oper.semAt_eq _ _ _ (by rintro c⟨⟩)]
  have aK:(execOp a.eval ⟨dst,.alloc t,ty,pos,after,guard⟩).run P w=.ok (.value (.pointer (some ⟨w.heap.size,0,none⟩))) (w.alloc (.cells zv.cells t)):=by
   simp[execOp,Instr.alloc,zeroValue,al h2,h3,newVar,newRow]
  rw[aK]
  exact hk
 ·simp[aB]at hc
 ·cases hm
theorem pB {r:Option Nat}{mu:Bool}{o:Oper}{k:Nat}(hm:nr o.op=true)(hc:a8 P mu o.op=some (.b .mS))(h:SR w0 g H w)(hk:H[k]?=some (.map []))(hn:g.φ k=none) :
  ∃v w' g',(∀(K:Act→World→Prop) (Q:Exit→Act→World→Prop),K (a.put o.dst v) w'→o.wpIn (Fw r) 0 P a w K Q)∧Le g w g' w'∧SR w0 g' H w'∧VR g' w' (.map k) v∧∀b,g.φ b=none→b≠k→g'.φ b=none:=by
 obtain⟨dst,op,ty,pos,after,guard⟩:=o
 simp only at hm hc
 have hc:=dF hc
 unfold nr at hm
 split at hm
 ·simp[aB]at hc
 ·rename_i t _
  obtain⟨le,sr⟩:=h.qy (H':=H) (b:=k) hk hn (fun b' x _ hx=>hx) (Nat.le_refl _)
  refine⟨.map (some w.heap.size),_,_,fun K Q hk=>⟨fun _ _=>trivial,?_⟩,le,sr,.map (r:=w.heap.size) (o:=0) (q:=0) (by simp[Ctx.at]),fun b hb aF=>by simp only[Ctx.at,Ctx.row];rw[if_neg aF];exact hb⟩
  rw[Oper.semAt_eq _ _ _ (by rintro c⟨⟩)]
  have aK:(execOp a.eval ⟨dst,.makeMap t none,ty,pos,after,guard⟩).run P w=.ok (.value (.map (some w.heap.size))) (w.alloc (.map #[] 0)):=by
   simp[execOp,Instr.makeMap]
  rw[aK]
  exact hk
 ·cases hm
end
theorem Fr.ext (g:Ctx)(H l:aa):Fr g H g (H++l):=⟨by simp,fun b x hx _ hn=>⟨dW hx,hn⟩⟩
structure Dr (P:Program)(n:Nat)(ops:Array Oper)(mu:Nat→Bool)(w0:World)(df:List Deferred)(mk:T)(g0:Ctx)(ws:World)(H0:aa)
  (pre:List It) (L:Array Bool) (g:Ctx) (R:ah) (H:aa) (a:Act) (w:World):Prop where
 nA:L.size=ops.size
 cmp:∀y∈pre,∃o,ops[y.i]?=some o∧(∃st,bV P n ops (mu y.i) o st=some y.o)∧y.ts=tmpsOf o y.o.op y.o.g
 rd:∀y∈pre,∀z∈pre,z.early=true→∀d,z.o.d=some d→d∈y.ts→((bK ops.toList []).getD y.i 0).testBit z.i=true
 dd:∀y∈pre,∀z∈pre,∀d,y.o.d=some d→z.o.d=some d→y.i=z.i
 kl:∀y∈pre,y.early=true→∀o,ops[y.i]?=some o→tY y.o=.make→nr o.op=true
 uniq:∀y∈pre,∀z∈pre,y.i=z.i→y=z
 jq:∀y∈pre,∀o,ops[y.i]?=some o→∀j∈aU o,j<y.i
 closed:∀i o,ops[i]?=some o→L.getD i false=true→∀j∈aU o,j<i∧L.getD j false=true
 sub:∀i,L.getD i false=true→∃y∈pre,y.i=i
 iM:∀y∈pre,y.early=false→L.getD y.i false=true
 sr:SR w0 g H w
 le:Le g0 ws g w
 fr:Fr g0 H0 g H
 kM:a.tmps.size=n
 kN:∀t,t<n→(∀y∈pre,L.getD y.i false=false→y.o.d≠some t)→VR g w (R t) (a.tmps.getD t undef)
 br:∀y∈pre,L.getD y.i false=false→jo g H0.length R H y
 inj:∀y∈pre,∀z∈pre,L.getD y.i false=false→L.getD z.i false=false→y.i≠z.i→∀k,dZ R y=some k→dZ R z≠some k
 wI:a.defers=df
 wJ:R n=mk
section
variable {P:Program} {n:Nat} {ops:Array Oper} {mu:Nat→Bool} {w0 w ws:World} {df:List Deferred} {mk:T} {g g0:Ctx} {H H0 H':aa} {pre:List It} {L:Array Bool} {R:ah} {a:Act} {r:Option Nat}
theorem eW {i:Nat}(h:i∈Region.ready .any ops L):L.getD i false=false∧∃o,ops[i]?=some o∧∀j∈aU o,L.getD j false=true:=by
 obtain⟨h1,o,h2,h3⟩:=mem_ready.1 h
 refine⟨?_,o,h2,fun j hj=>?_⟩
 ·cases hi:L[i]? with
  | none=>simp[Array.getD_eq_getD_getElem?,hi]at h1
  | some b=>simp[Array.getD_eq_getD_getElem?,hi]at h1 ⊢;exact h1
 ·simp only[aU,List.mem_map,List.mem_filter]at hj
  obtain⟨e,⟨he,hb⟩,rfl⟩:=hj
  exact h3 e (by simpa using he) hb
theorem Dr.bit (h:Dr P n ops mu w0 df mk g0 ws H0 pre L g R H a w){i:Nat}{o:Oper}{t:Nat}(ho:ops[i]?=some o)(hp:∀j∈aU o,j<i∧L.getD j false=true)
  (hb:((bK ops.toList []).getD i 0).testBit t=true):L.getD t false=true :=
 lV (D:=fun i=>L.getD i false=true) h.closed i o t ho hp hb
theorem bo {i j:Nat}(hi:i<L.size):(L.setIfInBounds i true).getD j false=if i=j then true else L.getD j false:=by
 by_cases e:i=j
 ·subst e;simp[Array.getD_eq_getD_getElem?,hi]
 ·rw[if_neg e,Array.getD_eq_getD_getElem?,Array.getD_eq_getD_getElem?,Array.getElem?_setIfInBounds_ne e]
theorem cO {o:Oper}{y:It}(h:y.ts=tmpsOf o y.o.op y.o.g):(∀t∈ff y.o.g,t∈y.ts)∧(∀t∈lP y.o.op,t∈y.ts)∧∀t∈bO o.op.operands.toList,t∈y.ts:=by
 rw[h];unfold tmpsOf
 exact⟨fun t ht=>by simp[ht],fun t ht=>by simp[ht],fun t ht=>by simp[ht]⟩
theorem Dr.look (h:Dr P n ops mu w0 df mk g0 ws H0 pre L g R H a w){i:Nat}{o:Oper}{ts:List Nat}(ho:ops[i]?=some o)(hp:∀j∈aU o,j<i∧L.getD j false=true)(hn:∀t∈ts,t<n)
  (hz:∀z∈pre,z.early=true→∀d,z.o.d=some d→d∈ts→((bK ops.toList []).getD i 0).testBit z.i=true):cB g w R a ts:=by
 intro t ht
 refine h.kN t (hn t ht) fun z jg hu hd=>?_
 cases he:z.early with
 | false=>rw[h.iM z jg he]at hu;cases hu
 | true=>rw[h.bit ho hp (hz z jg he t hd ht)]at hu;cases hu
theorem Dr.late (h:Dr P n ops mu w0 df mk g0 ws H0 pre L g R H a w){y:It}(hy:y∈pre)(hr:y.i∈Region.ready .any ops L) :
  ∃v w' g',(∀(K:Act→World→Prop) (Q:Exit→Act→World→Prop),K (a.put y.o.d v) w'→wpOpIn (Fw r) 0 P ops Q y.i K a w) ∧
   Dr P n ops mu w0 df mk g0 ws H0 pre (L.setIfInBounds y.i true) g' R H (a.put y.o.d v) w':=by
 obtain⟨ya,o,ho,CF⟩:=eW hr
 obtain⟨o',fv,⟨st,bJ⟩,pZ⟩:=h.cmp y hy
 rw[ho]at fv;cases fv
 obtain⟨op,gd,zj,DZ,yc,CG,zk⟩:=ak bJ
 have hd:y.o.d=o.dst:=by rw[yc]
 have z6:y.o.op=op:=by rw[yc]
 have CH:y.o.g=gd:=by rw[yc]
 obtain⟨E1,Gs,E2⟩:=cO pZ
 have hp:∀j∈aU o,j<y.i∧L.getD j false=true:=fun j hj=>⟨h.jq y hy o ho j hj,CF j hj⟩
 have kz:cB g w R a y.ts:=h.look ho hp (fun t ht=>CG t (by rw[pZ,z6,CH]at ht;exact ht)) (h.rd y hy)
 have BW:Region.wanted o (yielded ops a.tmps)=aq R y.o.g:=by
  rw[CH];exact gD DZ h.kM (fun t ht=>CG t (by simp[tmpsOf,ht])) (kz.sub (by rw[←CH];exact E1))
 have fe:y.i<L.size:=by rw[h.nA];exact(Array.getElem?_eq_some_iff.1 ho).1
 have CI:∀e,y.o.d=some e→e<a.tmps.size:=fun e he=>by rw[h.kM];exact zk e (hd▸he)
 have ey:∀v w' g',Le g w g' w'→SR w0 g' H w'→(∀d,y.o.d=some d→VR g' w' (R d) v)→Fr g0 H0 g' H→(∀z∈pre,L.getD z.i false=false→z.i≠y.i→jo g' H0.length R H z) →
   Dr P n ops mu w0 df mk g0 ws H0 pre (L.setIfInBounds y.i true) g' R H (a.put y.o.d v) w':=by
  intro v w' g' le sr hv fr z7
  refine { nA:=(by simp[h.nA]),cmp:=h.cmp,rd:=h.rd,dd:=h.dd,kl:=h.kl,uniq:=h.uniq,jq:=h.jq,closed:=?_,sub:=?_,iM:=?_,sr:=sr,le:=h.le.trans le,fr:=fr,kM:=(by rw[iL];exact h.kM),kN:=?_,br:=?_,inj:=?_,wI:=(by rw[db];exact h.wI),wJ:=h.wJ }
  ·intro i oi yd nB j hj
   rw[bo fe]at nB ⊢
   by_cases e:y.i=i
   ·subst e;rw[ho]at yd;cases yd
    obtain⟨h1,h2⟩:=hp j hj
    exact⟨h1,by split<;>simp[h2]⟩
   ·rw[if_neg e]at nB
    obtain⟨h1,h2⟩:=h.closed i oi yd nB j hj
    exact⟨h1,by split<;>simp[h2]⟩
  ·intro i nB
   rw[bo fe]at nB
   by_cases e:y.i=i
   ·exact⟨y,hy,e⟩
   ·rw[if_neg e]at nB;exact h.sub i nB
  ·intro z hz he
   rw[bo fe]
   split
   ·rfl
   ·exact h.iM z hz he
  ·intro t ht wK
   rw[iK _ _ _ _ CI]
   split
   ·rename_i e;exact hv t e
   ·rename_i e
    refine(h.kN t ht fun z hz hu hZ=>?_).mono le
    by_cases ez:y.i=z.i
    ·rw[h.uniq y hy z hz ez]at e;exact e hZ
    ·exact wK z hz (by rw[bo fe,if_neg ez];exact hu) hZ
  ·intro z hz hu
   rw[bo fe]at hu
   by_cases ez:y.i=z.i
   ·rw[if_pos ez]at hu;cases hu
   ·rw[if_neg ez]at hu;exact z7 z hz hu (Ne.symm ez)
  ·intro z hz z' jg hu qX
   rw[bo fe]at hu qX
   by_cases ez:y.i=z.i
   ·rw[if_pos ez]at hu;cases hu
   ·by_cases D0:y.i=z'.i
    ·rw[if_pos D0]at qX;cases qX
    ·rw[if_neg ez]at hu;rw[if_neg D0]at qX;exact h.inj z hz z' jg hu qX
 have qY:∀g',Fr g H g' H→∀z∈pre,L.getD z.i false=false→z.i≠y.i→jo g' H0.length R H z:=fun g' fr z hz hu _ =>
  (h.br z hz hu).mono (fun _ _=>rfl) (fun _ _=>rfl) (fun _ _=>rfl) (fun _ _ _ _ _ _ e=>e) (fun k x _ hx vD hn _=>fr.2 k x hx vD hn)
 rcases h.br y hy ya with⟨hw,hu⟩|⟨hw,d,b,ye,jA,dG⟩
 ·refine⟨undef,w,g,fun K Q hk=>?_,ey undef w g (.refl _ _) h.sr (fun d e=>by rw[hu d e];exact da) h.fr (qY g (.refl _ _))⟩
  unfold wpOpIn
  simp only[ho,BW,hw]
  rw[hd]at hk
  exact⟨fun _ _=>trivial,hk⟩
 ·have yf:a8 P (mu y.i) o.op=some (.b b):=by rw[←jA,z6];exact zj
  rcases dG with⟨hk,he⟩|⟨k,z,rfl,e1,e2,e3,e4⟩|⟨k,rfl,e1,e2,e3,e4⟩
  ·obtain⟨v,w',g',hs,le,sr,hv,fr⟩:=qV (r:=r) yf h.sr (kz.sub E2) he
   refine⟨v,w',g',fun K Q jD=>?_,ey v w' g' le sr (fun d' e=>by rw[ye]at e;cases e;exact hv) (h.fr.trans fr) (qY g' fr)⟩
   unfold wpOpIn
   simp only[ho,BW,hw,if_true]
   exact hs K Q (by rw[←hd];exact jD)
  ·-- a variable D1 dK place
   have yg:y.early=true:=by cases he:y.early with|true=>rfl|false=>rw[h.iM y hy he]at ya;cases ya
   have lh:=h.kl y hy yg o ho (by simp[tY,jA,ye,gC])
   obtain⟨v,w',g',hs,le,sr,hv,hφ⟩:=lX (r:=r) (a:=a) lh yf h.sr e2 e3
   have CJ:dZ R y=some k:=by simp[dZ,ye,jA,e1,fh]
   refine⟨v,w',g',fun K Q jD=>?_,ey v w' g' le sr (fun d' e=>by rw[ye]at e;cases e;rw[e1];exact hv) ⟨h.fr.1,fun b x hx vD hb=>?_⟩ fun z' jg qX aF=>?_⟩
   ·unfold wpOpIn
    simp only[ho,BW,hw,if_true]
    exact hs K Q (by rw[←hd];exact jD)
   ·obtain⟨f1,f2⟩:=h.fr.2 b x hx vD hb
    exact⟨f1,hφ b f2 (by have:=(List.getElem?_eq_some_iff.1 hx).1;omega)⟩
   ·exact(h.br z' jg qX).mono (fun _ _=>rfl) (fun _ _=>rfl) (fun _ _=>rfl) (fun _ _ _ _ _ _ e=>e) fun k' x xG hx _ hn _ =>
     ⟨hx,hφ k' hn (by rintro rfl;exact h.inj y hy z' jg ya qX (Ne.symm aF) k' CJ xG)⟩
  ·have yg:y.early=true:=by cases he:y.early with|true=>rfl|false=>rw[h.iM y hy he]at ya;cases ya
   have lh:=h.kl y hy yg o ho (by simp[tY,jA,ye,gC])
   obtain⟨v,w',g',hs,le,sr,hv,hφ⟩:=pB (r:=r) (a:=a) lh yf h.sr e2 e3
   have CJ:dZ R y=some k:=by simp[dZ,ye,jA,e1,fh]
   refine⟨v,w',g',fun K Q jD=>?_,ey v w' g' le sr (fun d' e=>by rw[ye]at e;cases e;rw[e1];exact hv) ⟨h.fr.1,fun b x hx vD hb=>?_⟩ fun z' jg qX aF=>?_⟩
   ·unfold wpOpIn
    simp only[ho,BW,hw,if_true]
    exact hs K Q (by rw[←hd];exact jD)
   ·obtain⟨f1,f2⟩:=h.fr.2 b x hx vD hb
    exact⟨f1,hφ b f2 (by have:=(List.getElem?_eq_some_iff.1 hx).1;omega)⟩
   ·exact(h.br z' jg qX).mono (fun _ _=>rfl) (fun _ _=>rfl) (fun _ _=>rfl) (fun _ _ _ _ _ _ e=>e) fun k' x xG hx _ hn _ =>
     ⟨hx,hφ k' hn (by rintro rfl;exact h.inj y hy z' jg ya qX (Ne.symm aF) k' CJ xG)⟩
end
structure Hd (P:Program)(n:Nat)(ops:Array Oper)(mu:Nat→Bool)(pre:List It)(x:It)(o:Oper):Prop where
 ho:ops[x.i]?=some o
 co:bV P n ops (mu x.i) o x.o.gX=some x.o
 ts:x.ts=tmpsOf o x.o.op x.o.g
 st:x.early=false→x.o.gX=dw ((bK ops.toList []).getD x.i 0) pre
 pred:∀j∈aU o,j<x.i∧∃z∈pre,z.i=j
 E3:∀z∈pre,z.early=true∨((bK ops.toList []).getD x.i 0).testBit z.i=true
 ne:∀z∈pre,z.i≠x.i
 dst:∀d,x.o.d=some d→(∀z∈pre,z.o.d≠some d∧(d∈z.ts→x.early=false∧((bK ops.toList []).getD x.i 0).testBit z.i=true))∧d∉x.ts
 CK:∀z∈pre,∀d,z.o.d=some d→d∈x.ts→((bK ops.toList []).getD x.i 0).testBit z.i=true
 kl:x.early=true→tY x.o≠.wH∧(tY x.o=.make→nr o.op=true)
theorem pC {P:Program}{n:Nat}{ops:Array Oper}{mu:Nat→Bool}{pre:List It}{y:Nat×Bool}{x:It}(h:nu P n ops mu ((bK ops.toList []).getD y.1 0) pre y=some x):∃o,Hd P n ops mu pre x o:=by
 unfold nu at h
 generalize nZ:(bK ops.toList []).getD y.1 0=bs at h
 cases ho:ops[y.1]? with
 | none=>simp[ho]at h
 | some o =>
  rw[ho]at h;dsimp only at h
  cases hc:bV P n ops (mu y.1) o (if y.2=true then []else dw bs pre)with
  | none=>rw[hc]at h;cases h
  | some o' =>
   rw[hc]at h;dsimp only at h
   split at h
   ·rename_i hk
    cases h
    subst nZ
    have hU:o'.gX=if y.2=true then []else dw ((bK ops.toList []).getD y.1 0) pre:=by
     obtain⟨op,gd,_,_,e,_⟩:=ak hc;rw[e]
    simp only[qT,Bool.and_eq_true,List.all_eq_true,decide_eq_true_eq,List.any_eq_true,beq_iff_eq,Bool.or_eq_true,bne_iff_ne,ne_eq,Bool.not_eq_true']at hk
    obtain⟨⟨⟨⟨⟨k1,k2⟩,k3⟩,k4⟩,k5⟩,k6⟩:=hk
    refine⟨o,ho,by rw[hU];exact hc,rfl,fun he=>by simp only at he;rw[hU,he];rfl,k1,k2,k3,fun d hd=>?_,fun z hz d hd ht=>?_,fun he=>?_⟩
    ·simp only at hd
     rw[hd]at k4
     simp only[List.all_eq_true,Bool.and_eq_true,bne_iff_ne,ne_eq,Bool.or_eq_true,Bool.not_eq_true',List.contains_eq_mem,decide_eq_false_iff_not,decide_eq_true_eq]at k4
     exact⟨fun z hz=>⟨(k4.1 z hz).1,fun ht=>((k4.1 z hz).2.resolve_left (fun hn=>hn ht))⟩,k4.2⟩
    ·have:=k5 z hz
     rw[hd]at this
     simp only[Bool.or_eq_true,Bool.not_eq_true',List.contains_eq_mem,decide_eq_false_iff_not]at this
     exact this.resolve_left (fun hn=>hn ht)
    ·rcases k6 with k6|k6
     ·have wA:y.2=true:=he
      rw[wA]at k6;cases k6
     ·exact⟨k6.1,fun hm=>k6.2.resolve_left (fun hn=>hn hm)⟩
   ·cases h
theorem ea {P:Program}{n:Nat}{ops:Array Oper}{mu:Nat→Bool}{pre:List It}{y:Nat×Bool}{ord:List (Nat×Bool)}{dK:List It}(h:bu P n ops mu (bK ops.toList []) pre (y :: ord)=some dK) :
  ∃x l o,dK=x :: l∧Hd P n ops mu pre x o∧bu P n ops mu (bK ops.toList []) (pre++[x]) ord=some l:=by
 simp only[bu]at h
 split at h
 ·rename_i x hx
  simp only[Option.map_eq_some_iff]at h
  obtain⟨l,h1,rfl⟩:=h
  obtain⟨o,ho⟩:=pC hx
  exact⟨x,l,o,rfl,ho,h1⟩
 ·cases h
theorem aW {P:Program}{n:Nat}{ops:Array Oper}{mu:Nat→Bool}:∀(ord:List (Nat×Bool)) (pre dK:List It),bu P n ops mu (bK ops.toList []) pre ord=some dK→∀i,i<ops.size→∃y∈pre++dK,y.i=i
 | [],pre,dK,h,i,hi=>by
  simp only[bu]at h
  split at h
  ·rename_i hk
   cases h
   simp only[List.all_eq_true,List.mem_range,List.any_eq_true,beq_iff_eq]at hk
   simpa using hk i hi
  ·cases h
 | y :: ord,pre,dK,h,i,hi=>by
  obtain⟨x,l,o,rfl,_,h2⟩:=ea h
  simpa using aW ord (pre++[x]) l h2 i hi
theorem a9 {P:Program}{n:Nat}{ops:Array Oper}{mu:Nat→Bool}:∀(ord:List (Nat×Bool)) (pre dK:List It),bu P n ops mu (bK ops.toList []) pre ord=some dK→∀y∈dK,(∃o,ops[y.i]?=some o∧(∀j∈aU o,j<y.i))∧∀z∈pre,z.early=true∨((bK ops.toList []).getD y.i 0).testBit z.i=true
 | [],pre,dK,h,y,hy=>by
  simp only[bu]at h
  split at h
  ·cases h;cases hy
  ·cases h
 | u :: ord,pre,dK,h,y,hy=>by
  obtain⟨x,l,o,rfl,h1,h2⟩:=ea h
  rcases List.mem_cons.1 hy with rfl|hy
  ·exact⟨⟨o,h1.ho,fun j hj=>(h1.pred j hj).1⟩,h1.E3⟩
  ·obtain⟨h3,h4⟩:=a9 ord (pre++[x]) l h2 y hy
   exact⟨h3,fun z hz=>h4 z (by simp[hz])⟩
theorem iP {b:Nat}{y:It}{d:Nat}{op:Bo}:∀(pre:List It),y∈pre→y.early=true→y.o.d=some d→y.o.op=.b op→gC op=.read→b.testBit y.i=false→⟨d,op,y.o.g⟩∈dw b pre
 | [],h,_,_,_,_,_=>by cases h
 | z :: pre,h,h1,h2,h3,h4,h5=>by
  rcases List.mem_cons.1 h with rfl|h
  ·simp[dw,h1,h2,h3,h4,h5]
  ·have ih:=iP pre h h1 h2 h3 h4 h5
   simp only[dw]
   split
   ·split
    ·exact List.mem_cons_of_mem _ ih
    ·exact ih
   ·exact ih
theorem dc {R R':ah}{y:It}(h:∀d,y.o.d=some d→R' d=R d):dZ R' y=dZ R y:=by
 unfold dZ
 split
 ·rename_i d z h1 h2;simp only[h1,h2,h d h1]
 ·rename_i d h1 h2;simp only[h1,h2,h d h1]
 ·rfl
theorem jo.lt {g:Ctx}{N:Nat}{R:ah}{H:aa}{y:It}(h:jo g N R H y){k:Nat}(hm:dZ R y=some k):k<H.length:=by
 unfold dZ at hm
 rcases h with⟨_,h2⟩|⟨_,d,b,h2,h3,h4⟩
 ·split at hm
  ·rename_i d z h1 _;rw[h2 d h1]at hm;cases hm
  ·rename_i d h1 _;rw[h2 d h1]at hm;cases hm
  ·cases hm
 ·rw[h2,h3]at hm
  rcases h4 with⟨hk,he⟩|⟨k',z,rfl,e1,e2,e3,e4⟩|⟨k',rfl,e1,e2,e3,e4⟩
  ·cases b<;>simp[gC]at hk hm
  ·simp only[e1,fh,Option.some.injEq]at hm;subst hm;exact(List.getElem?_eq_some_iff.1 e2).1
  ·simp only[e1,fh,Option.some.injEq]at hm;subst hm;exact(List.getElem?_eq_some_iff.1 e2).1
section
variable {P:Program} {n:Nat} {ops:Array Oper} {mu:Nat→Bool} {w0 w w' ws:World} {df:List Deferred} {mk:T} {g g' g0:Ctx} {H H0 H':aa} {pre:List It} {L:Array Bool} {R:ah} {a:Act} {r:Option Nat} {x:It} {o:Oper}
theorem Dr.fB (h:Dr P n ops mu w0 df mk g0 ws H0 pre L g R H a w)(hd:Hd P n ops mu pre x o):L.getD x.i false=false:=by
 cases e:L.getD x.i false with
 | false=>rfl
 | true=>obtain⟨y,hy,e⟩:=h.sub x.i e;exact absurd e (hd.ne y hy)
theorem aj {α:Type}{y x:α}{l:List α}(h:y∈l++[x]):y∈l∨y=x:=by simpa using h
theorem Dr.take (h:Dr P n ops mu w0 df mk g0 ws H0 pre L g R H a w)(hd:Hd P n ops mu pre x o)(he:x.early=true){t:T}(hp:jo g H0.length (aw R x.o.d t) H' x)
  (hH:H'=H∨∃B,H'=H++[B]∧((∃cs,B=.cells cs)∨∃es,B=.map es)) (hm:∀k,dZ (aw R x.o.d t) x=some k→H.length≤k):Dr P n ops mu w0 df mk g0 ws H0 (pre++[x]) L g (aw R x.o.d t) H' a w:=by
 have E4:=h.fB hd
 have jH:∀t:T,x.o.d≠some n:=fun _ e=>by
  obtain⟨op,gd,_,_,yc,_,zk⟩:=ak hd.co
  have BX:x.o.d=o.dst:=by rw[yc]
  exact Nat.lt_irrefl n (zk n (BX▸e))
 have pZ:∀z∈pre,∀u∈z.ts,aw R x.o.d t u=R u:=fun z hz u hu=>aN fun e=>by
  obtain⟨h1,_⟩:=((hd.dst u e).1 z hz).2 hu
  rw[he]at h1;cases h1
 have qZ:∀z∈pre,∀d,z.o.d=some d→aw R x.o.d t d=R d:=fun z hz d hZ=>aN fun e=>((hd.dst d e).1 z hz).1 hZ
 have CL:∃l,H'=H++l:=by
  rcases hH with rfl|⟨B,rfl,_⟩
  ·exact⟨[],by simp⟩
  ·exact⟨[B],rfl⟩
 obtain⟨l,hl⟩:=CL
 have BZ:∀z∈pre,L.getD z.i false=false→jo g H0.length (aw R x.o.d t) H' z:=fun z hz hu=>by
  obtain⟨oz,_,_,CM⟩:=h.cmp z hz
  obtain⟨t1,t2,_⟩:=cO CM
  refine(h.br z hz hu).mono (fun u hu=>pZ z hz u (t1 u hu)) (fun u hu=>pZ z hz u (t2 u hu)) (qZ z hz) (fun d b _ _ _ hk e=>?_) (fun k y _ hy _ hn _=>?_)
  ·subst hl;exact(eV hk e).2 l
  ·subst hl;exact⟨dW hy,hn⟩
 refine { nA:=h.nA,cmp:=?_,rd:=?_,dd:=?_,kl:=?_,uniq:=?_,jq:=?_,closed:=h.closed,sub:=fun i hi=>?_,iM:=?_,sr:=?_,le:=h.le,fr:=?_,kM:=h.kM,kN:=?_,br:=?_,inj:=?_,wI:=h.wI,wJ:=(by rw[aN (jH t)];exact h.wJ) }
 ·intro y hy
  replace hy:=aj hy;rcases hy with hy|rfl
  ·exact h.cmp y hy
  ·exact⟨o,hd.ho,⟨_,hd.co⟩,hd.ts⟩
 ·intro y hy z hz z8 d hZ yh
  replace hy:=aj hy;rcases hy with hy|rfl
  ·replace hz:=aj hz;rcases hz with hz|rfl
   ·exact h.rd y hy z hz z8 d hZ yh
   ·obtain⟨h1,_⟩:=((hd.dst d hZ).1 y hy).2 yh
    rw[he]at h1;cases h1
  ·replace hz:=aj hz;rcases hz with hz|rfl
   ·exact hd.CK z hz d hZ yh
   ·exact absurd yh (hd.dst d hZ).2
 ·intro y hy z hz d vE hZ
  replace hy:=aj hy;rcases hy with hy|rfl
  ·replace hz:=aj hz;rcases hz with hz|rfl
   ·exact h.dd y hy z hz d vE hZ
   ·exact absurd vE ((hd.dst d hZ).1 y hy).1
  ·replace hz:=aj hz;rcases hz with hz|rfl
   ·exact absurd hZ ((hd.dst d vE).1 z hz).1
   ·rfl
 ·intro y hy od o' fv
  replace hy:=aj hy;rcases hy with hy|rfl
  ·exact h.kl y hy od o' fv
  ·rw[hd.ho]at fv;cases fv;exact(hd.kl od).2
 ·intro y hy z hz e
  replace hy:=aj hy;rcases hy with hy|rfl
  ·replace hz:=aj hz;rcases hz with hz|rfl
   ·exact h.uniq y hy z hz e
   ·exact absurd e (hd.ne y hy)
  ·replace hz:=aj hz;rcases hz with hz|rfl
   ·exact absurd e.symm (hd.ne z hz)
   ·rfl
 ·intro y hy o' fv j hj
  replace hy:=aj hy;rcases hy with hy|rfl
  ·exact h.jq y hy o' fv j hj
  ·rw[hd.ho]at fv;cases fv;exact(hd.pred j hj).1
 ·obtain⟨y,hy,e⟩:=h.sub i hi
  exact⟨y,by simp[hy],e⟩
 ·intro y hy od
  replace hy:=aj hy;rcases hy with hy|rfl
  ·exact h.iM y hy od
  ·rw[he]at od;cases od
 ·rcases hH with rfl|⟨B,rfl,hB⟩
  ·exact h.sr
  ·exact h.sr.CE hB
 ·subst hl;exact h.fr.trans (Fr.ext g H l)
 ·intro u hu wK
  rw[aN (wK x (by simp) E4)]
  exact h.kN u hu fun y hy jr=>wK y (by simp[hy]) jr
 ·intro y hy jr
  replace hy:=aj hy;rcases hy with hy|rfl
  ·exact BZ y hy jr
  ·exact hp
 ·intro y hy z hz jr lJ aF k hk nX
  replace hy:=aj hy;rcases hy with hy|rfl
  ·rw[dc (qZ y hy)]at hk
   replace hz:=aj hz;rcases hz with hz|rfl
   ·rw[dc (qZ z hz)]at nX
    exact h.inj y hy z hz jr lJ aF k hk nX
   ·have h1:=(h.br y hy jr).lt hk
    have h2:=hm k nX
    omega
  ·replace hz:=aj hz;rcases hz with hz|rfl
   ·rw[dc (qZ z hz)]at nX
    have h1:=(h.br z hz lJ).lt nX
    have h2:=hm k hk
    omega
   ·exact aF rfl
theorem Dr.both (h:Dr P n ops mu w0 df mk g0 ws H0 pre L g R H a w)(hd:Hd P n ops mu pre x o)(he:x.early=false)(hp:∀j∈aU o,L.getD j false=true){t:T}{v:Value}(le:Le g w g' w')(sr:SR w0 g' H' w')(hv:VR g' w' t v)(fr:Fr g H g' H')
  (hs:∀y∈pre,L.getD y.i false=false→∀d b,aq R y.o.g=true→y.o.d=some d→y.o.op=.b b→gC b=.read→ae R H b=some (R d,H)→ae R H' b=some (R d,H')) :
  Dr P n ops mu w0 df mk g0 ws H0 (pre++[x]) (L.setIfInBounds x.i true) g' (aw R x.o.d t) H' (a.put x.o.d v) w':=by
 have fe:x.i<L.size:=by rw[h.nA];exact(Array.getElem?_eq_some_iff.1 hd.ho).1
 have BO:∀j∈aU o,j<x.i∧L.getD j false=true:=fun j hj=>⟨(hd.pred j hj).1,hp j hj⟩
 obtain⟨op,gd,zj,DZ,yc,CG,zk⟩:=ak hd.co
 have BX:x.o.d=o.dst:=by rw[yc]
 have CI:∀e,x.o.d=some e→e<a.tmps.size:=fun e h1=>by rw[h.kM];exact zk e (BX▸h1)
 have pZ:∀z∈pre,L.getD z.i false=false→∀u∈z.ts,aw R x.o.d t u=R u:=fun z hz hu u E5=>aN fun e=>by
  obtain⟨_,h2⟩:=((hd.dst u e).1 z hz).2 E5
  rw[h.bit hd.ho BO h2]at hu;cases hu
 have qZ:∀z∈pre,∀d,z.o.d=some d→aw R x.o.d t d=R d:=fun z hz d hZ=>aN fun e=>((hd.dst d e).1 z hz).1 hZ
 refine { nA:=(by simp[h.nA]),cmp:=?_,rd:=?_,dd:=?_,kl:=?_,uniq:=?_,jq:=?_,closed:=?_,sub:=?_,iM:=?_,sr:=sr,le:=h.le.trans le,fr:=h.fr.trans fr,kM:=(by rw[iL];exact h.kM),kN:=?_,br:=?_,inj:=?_,wI:=(by rw[db];exact h.wI),wJ:=(by rw[aN (fun e=>Nat.lt_irrefl n (zk n (BX▸e)))];exact h.wJ) }
 ·intro y hy
  replace hy:=aj hy;rcases hy with hy|rfl
  ·exact h.cmp y hy
  ·exact⟨o,hd.ho,⟨_,hd.co⟩,hd.ts⟩
 ·intro y hy z hz z8 d hZ yh
  replace hz:=aj hz;rcases hz with hz|rfl
  ·replace hy:=aj hy;rcases hy with hy|rfl
   ·exact h.rd y hy z hz z8 d hZ yh
   ·exact hd.CK z hz d hZ yh
  ·rw[he]at z8;cases z8
 ·intro y hy z hz d vE hZ
  replace hy:=aj hy;rcases hy with hy|rfl
  ·replace hz:=aj hz;rcases hz with hz|rfl
   ·exact h.dd y hy z hz d vE hZ
   ·exact absurd vE ((hd.dst d hZ).1 y hy).1
  ·replace hz:=aj hz;rcases hz with hz|rfl
   ·exact absurd hZ ((hd.dst d vE).1 z hz).1
   ·rfl
 ·intro y hy od o' fv
  replace hy:=aj hy;rcases hy with hy|rfl
  ·exact h.kl y hy od o' fv
  ·rw[he]at od;cases od
 ·intro y hy z hz e
  replace hy:=aj hy;rcases hy with hy|rfl
  ·replace hz:=aj hz;rcases hz with hz|rfl
   ·exact h.uniq y hy z hz e
   ·exact absurd e (hd.ne y hy)
  ·replace hz:=aj hz;rcases hz with hz|rfl
   ·exact absurd e.symm (hd.ne z hz)
   ·rfl
 ·intro y hy o' fv j hj
  replace hy:=aj hy;rcases hy with hy|rfl
  ·exact h.jq y hy o' fv j hj
  ·rw[hd.ho]at fv;cases fv;exact(hd.pred j hj).1
 ·intro i oi yd nB j hj
  rw[bo fe]at nB ⊢
  by_cases e:x.i=i
  ·subst e
   rw[hd.ho]at yd;cases yd
   obtain⟨h1,h2⟩:=BO j hj
   exact⟨h1,by split<;>simp[h2]⟩
  ·rw[if_neg e]at nB
   obtain⟨h1,h2⟩:=h.closed i oi yd nB j hj
   exact⟨h1,by split<;>simp[h2]⟩
 ·intro i nB
  rw[bo fe]at nB
  by_cases e:x.i=i
  ·exact⟨x,by simp,e⟩
  ·rw[if_neg e]at nB
   obtain⟨y,hy,e⟩:=h.sub i nB
   exact⟨y,by simp[hy],e⟩
 ·intro y hy od
  rw[bo fe]
  split
  ·rfl
  ·rename_i aF
   replace hy:=aj hy;rcases hy with hy|rfl
   ·exact h.iM y hy od
   ·exact absurd rfl aF
 ·intro u hu wK
  rw[iK _ _ _ _ CI]
  split
  ·rename_i e;rw[e,dr];exact hv
  ·rename_i e
   rw[aN e]
   exact(h.kN u hu fun y hy jr=>wK y (by simp[hy]) (by rw[bo fe,if_neg (Ne.symm (hd.ne y hy))];exact jr)).mono le
 ·intro y hy jr
  rw[bo fe]at jr
  split at jr
  ·cases jr
  ·rename_i aF
   replace hy:=aj hy;rcases hy with hy|rfl
   ·obtain⟨oz,_,_,CM⟩:=h.cmp y hy
    obtain⟨t1,t2,_⟩:=cO CM
    exact(h.br y hy jr).mono (fun u hu=>pZ y hy jr u (t1 u hu)) (fun u hu=>pZ y hy jr u (t2 u hu)) (qZ y hy) (hs y hy jr) (fun k z _ hz vD hn _=>fr.2 k z hz vD hn)
   ·exact absurd rfl aF
 ·intro y hy z hz jr lJ aF k hk nX
  rw[bo fe]at jr lJ
  split at jr
  ·cases jr
  ·split at lJ
   ·cases lJ
   ·rename_i E6 Cx
    replace hy:=aj hy;rcases hy with hy|rfl
    ·replace hz:=aj hz;rcases hz with hz|rfl
     ·rw[dc (qZ y hy)]at hk
      rw[dc (qZ z hz)]at nX
      exact h.inj y hy z hz jr lJ aF k hk nX
     ·exact absurd rfl Cx
    ·exact absurd rfl E6
theorem Dr.init (sr:SR w0 g H w)(hn:a.tmps.size=n)(lh:R n=mk)(hr:∀t,t<n→VR g w (R t) (a.tmps.getD t undef))(le:Le g0 ws g w)(fr:Fr g0 H0 g H):Dr P n ops mu w0 a.defers mk g0 ws H0 [] (Array.replicate ops.size false) g R H a w:=by
 have hf:∀i,(Array.replicate ops.size false).getD i false=false:=fun i=>by
  rw[Array.getD_eq_getD_getElem?,Array.getElem?_replicate];split<;>rfl
 refine { nA:=by simp,cmp:=(by simp),rd:=(by simp),dd:=(by simp),kl:=(by simp),uniq:=(by simp),jq:=(by simp),closed:=fun i o _ h=>?_,sub:=fun i h=>?_,iM:=(by simp),sr:=sr,le:=le,fr:=fr,kM:=hn,kN:=fun t ht _=>hr t ht,br:=(by simp),inj:=(by simp),wI:=rfl,wJ:=lh }
 ·rw[hf]at h;cases h
 ·rw[hf]at h;cases h
end
section
variable {P:Program} {w0 w:World} {g:Ctx} {H H':aa} {R:ah} {a:Act} {n:Nat} {ops:Array Oper}
def dH:Bo→Bool
 | .gV _ _ _ _=>true
 | _=>false
theorem cH {b:Bo}(h:dH b=false){neg:Bool}{c:uc}{x y:X}:b≠.gV neg c x y:=by rintro rfl;cases h
theorem re {ty:TypeId}{x:X}{b:Bo}(h:jI P ty x=some b):dH b=false:=by
 unfold jI at h;(repeat' split at h)<;>cases h<;>rfl
theorem jP {ty:TypeId}{x:X}{f:Nat}{ad:Bool}{b:Bo}(h:fx P ty x f ad=some b):dH b=false:=by
 unfold fx at h;(repeat' split at h)<;>cases h<;>rfl
theorem oe {ty:TypeId}{x i:X}{ad:Bool}{b:Bo}(h:nj P ty x i ad=some b):dH b=false:=by
 unfold nj at h;(repeat' split at h)<;>first|(cases h<;>rfl)|(simp only[Option.map_eq_some_iff]at h;obtain⟨_,_,h⟩:=h;cases h;rfl)
theorem pD {ty:TypeId}{x:X}{lo hi mx:Option X}{b:Bo}(h:gx P ty x lo hi mx=some b):dH b=false:=by
 unfold gx at h;(repeat' split at h)<;>cases h<;>rfl
theorem vF {ty:TypeId}{x:X}{lo hi mx:Option X}{b:Bo}(h:pn P ty x lo hi mx=some b):dH b=false:=by
 unfold pn at h
 split at h
 ·simp only[Option.map_eq_some_iff]at h;obtain⟨_,_,h⟩:=h;cases h;rfl
 ·cases h
theorem rf {src dst:TypeId}{x:X}{b:Bo}(h:jJ P src dst x=some b):dH b=false:=by
 unfold jJ at h;(repeat' split at h)<;>cases h<;>rfl
theorem nC {mu:Bool}{dq:List TypeId}{as:List X}{b:Bo}(h:eS P mu dq as=some b):dH b=false:=by
 unfold eS at h;(repeat' split at h)<;>cases h<;>rfl
theorem vG {dq:List TypeId}{as:List X}{b:Bo}(h:lL P dq as=some b):dH b=false:=by
 unfold lL at h;(repeat' split at h)<;>cases h<;>rfl
theorem lY {mu:Bool}{bt:Builtin}{dq:List TypeId}{as:List X}{b:Bo}(h:dE P mu bt dq as=some b):dH b=false:=by
 unfold dE at h
 split at h
 ·split at h
  ·rename_i b' hz;cases h;exact vG hz
  ·exact nC h
 all_goals (repeat' split at h)<;>first|(cases h<;>rfl)|(simp only[Option.map_eq_some_iff]at h;obtain⟨_,_,h⟩:=h;cases h;rfl)
theorem pE {ty:TypeId}{ps:List (Nat×X)}{b:Bo}(h:gy P ty ps=some b):dH b=false:=by
 unfold gy at h;(repeat' split at h)<;>cases h<;>rfl
theorem vH {mu:Bool}{ty:TypeId}{n:Nat}{ps:List (Nat×X)}{b:Bo}(h:po P mu ty n ps=some b):dH b=false:=by
 cases mu<;>unfold po at h<;>(repeat' split at h)<;>cases h<;>rfl
theorem vI {mu:Bool}{ty:TypeId}{l c:X}{b:Bo}(h:pq P mu ty l c=some b):dH b=false:=by
 unfold pq at h;(repeat' split at h)<;>cases h<;>rfl
theorem nD {mu:Bool}{op:Op}{neg:Bool}{x y:X}(h:aB P mu op=some (.gV neg .slice x y)) :
  ∃zl ty ox oy yt e,op=.binOp zl ty ox oy yt∧ai ox=some x∧ai oy=some y∧P.underlying ty=some (.slice e)∧zl=(if neg then .neq else .eql):=by
 cases op<;>simp only[aB,Option.map_eq_some_iff,Option.bind_eq_some_iff]at h
 case binOp zl ty ox oy yt =>
  cases h1:ai ox with
  | none=>simp[h1]at h
  | some x'=>cases h2:ai oy with
   | none=>simp[h1,h2]at h
   | some y' =>
    simp only[h1,h2]at h
    unfold qL at h
    split at h
    ·cases h
    ·cases h
    ·simp only[Option.map_eq_some_iff]at h;obtain⟨_,_,h⟩:=h;cases h
    ·split at h
     ·split at h<;>cases h
     ·cases h
    ·rename_i d _ _ _ _ hu
     split at h
     ·rename_i n' c hn hO
      cases h
      refine⟨zl,ty,ox,oy,yt,?_⟩
      cases d<;>simp[cls]at hO
      exact⟨_,rfl,h1,h2,hu,by cases zl<;>simp[isEq]at hn<;>subst hn<;>rfl⟩
     ·cases h
    ·cases h
 case load=>obtain⟨_,_,h⟩:=h;exact absurd rfl (cH (re h))
 case fieldAddr=>obtain⟨_,_,h⟩:=h;exact absurd rfl (cH (jP h))
 case field=>obtain⟨_,_,h⟩:=h;exact absurd rfl (cH (jP h))
 case indexAddr=>split at h;exact absurd rfl (cH (oe h));cases h
 case index=>split at h;exact absurd rfl (cH (oe h));cases h
 case slice =>
  split at h
  ·split at h
   ·exact absurd rfl (cH (vF h))
   ·exact absurd rfl (cH (pD h))
  ·cases h
 case convert=>obtain⟨_,_,h⟩:=h;exact absurd rfl (cH (rf h))
 case build=>obtain⟨_,_,h⟩:=h;exact absurd rfl (cH (pE h))
 case buildSlice=>obtain⟨_,_,h⟩:=h;exact absurd rfl (cH (vH h))
 case makeSlice=>split at h;exact absurd rfl (cH (vI h));cases h
 case call c =>
  obtain⟨callee,args,dq⟩:=c
  cases callee
  case builtin=>simp only[aB,Option.bind_eq_some_iff]at h;obtain⟨_,_,h⟩:=h;exact absurd rfl (cH (lY h))
  case value cv =>
   cases cv<;>simp only[aB]at h<;>(try (cases h;done))
   split at h<;>cases h
  all_goals simp[aB]at h
 case makeMap t r=>cases r<;>simp[aB]at h
 case next it str=>cases str<;>simp[aB]at h
 case range ty m=>split at h;(simp only[Option.map_eq_some_iff]at h;obtain⟨_,_,h⟩:=h;cases h);cases h
 case makeFunc f first ew =>
  cases f<;>simp only[aB]at h
  case func f =>
   split at h
   ·simp only[Option.map_eq_some_iff]at h;obtain⟨_,_,h⟩:=h;cases h
   ·cases h
  all_goals cases h
 all_goals first
  | (cases h;done)
  | (obtain⟨_,_,h⟩:=h;cases h;done)
  | ((repeat' split at h)<;>first|(cases h;done)|(simp only[Option.map_eq_some_iff]at h;obtain⟨_,_,h⟩:=h;cases h;done))
  | (simp only[Option.map_eq_some_iff]at h;obtain⟨_,_,h⟩:=h;cases h)
  | skip
theorem pF {ty e:TypeId}{ox oy:Operand}{ad:Option Addr}{l p:Nat}{neg:Bool}(hu:P.underlying ty=some (.slice e)) :
  (do eqGuard (if neg then .neq else .eql) ty ox oy (.slice ad l p) (.slice none 0 0);binOp (if neg then .neq else .eql) ty (.slice ad l p) (.slice none 0 0)).run P w=.ok (.bool (if neg then !ad.isNone else ad.isNone)) w:=by
 have k1:∀op,(eqGuard op ty ox oy (.slice ad l p) (.slice none 0 0)).run P w=.ok () w:=fun op=>lC
 have k2:(Op.equal ty (.slice ad l p) (.slice none 0 0)).run P w=.ok ad.isNone w:=cy fun n=>by
  rw[Op.equalIn];simp only[Sem.run_bind,run_underlying hu,Result.andThen_ok]
  cases ad<;>simp_all
 have k3:∀neg:Bool,(binOp (if neg then .neq else .eql) ty (.slice ad l p) (.slice none 0 0)).run P w=((Op.equal ty (.slice ad l p) (.slice none 0 0)).run P w).andThen fun b w'=>.ok (.bool (if neg then !b else b)) w':=fun neg=>by cases neg<;>simp[binOp]
 simp only[Sem.run_bind,k1,Result.andThen_ok,k3,k2]
theorem pG {r:Option Nat}{mu:Bool}{o:Oper}{neg:Bool}{x y:X}(hc:a8 P mu o.op=some (.b (.gV neg .slice x y)))(hr:cB g w R a (bO o.op.operands.toList))
  (hx:x.ev R=.sl .arg []) (hy:y.ev R=.sl .nil []):∃b:Bool,∀(K:Act→World→Prop) (Q:Exit→Act→World→Prop),K (a.put o.dst (.bool b)) w→o.wpIn (Fw r) 0 P a w K Q:=by
 have jH:=cR hc
 obtain⟨zl,ty,ox,oy,yt,e,ho,h1,h2,hu,rfl⟩:=nD (dF hc)
 have D2:=jO hr
 have v1:=D2 ox (by rw[ho];simp[Op.operands]) x h1
 have v2:=D2 oy (by rw[ho];simp[Op.operands]) y h2
 rw[hx]at v1
 rw[hy]at v2
 generalize h3:a.eval ox=vx at v1
 generalize h4:a.eval oy=vy at v2
 have e2:vy=.slice none 0 0:=by
  cases v2 with
  | slnil=>rfl
  | sl a0 hk=>exact hk.elim
 subst e2
 obtain⟨ad,l,p,rfl⟩:∃ad l p,vx=.slice ad l p:=by cases v1<;>exact⟨_,_,_,rfl⟩
 refine⟨if neg then !ad.isNone else ad.isNone,fun K Q hk=>⟨fun _ _=>trivial,?_⟩⟩
 rw[Oper.semAt_eq _ _ _ jH]
 have aK:(execOp a.eval o).run P w=.ok (.value (.bool (if neg then !ad.isNone else ad.isNone))) w:=by
  have:=pF (P:=P) (w:=w) (ox:=ox) (oy:=oy) (ad:=ad) (l:=l) (p:=p) (neg:=neg) hu
  simp only[execOp,ho,h3,h4]
  rw[Sem.run_bind,this]
  rfl
 rw[aK]
 exact hk
end
def dg (g:Ctx)(w:World)(n:Nat)(R:ah)(a:Act):Prop:=a.tmps.size=n∧∀t,t<n→VR g w (R t) (a.tmps.getD t undef)
def js:Exit→Option Ex
 | .normal=>some .normal
 | .exit id=>some (.exit id)
 | .ret=>some .ret
 | _=>none
def nE (w0:World)(n:Nat)(df:List Deferred)(mk:T)(g:Ctx)(w:World)(H:aa)(Q:Out→aa→Prop):Exit→Act→World→Prop:=fun e a' w' =>
 ∃ex R' g' H',js e=some ex∧Q (.ex ex R') H'∧Le g w g' w'∧SR w0 g' H' w'∧dg g' w' n R' a'∧Fr g H g' H'∧a'.defers=df∧R' n=mk
def jQ (w0:World)(g:Ctx)(w:World)(H:aa)(Q:T→aa→Prop):Ending→World→Prop:=fun e w' =>
 ∃v t g' H',e=.returned v∧Q t H'∧Le g w g' w'∧SR w0 g' H' w'∧VR g' w' t v∧Fr g H g' H'
structure lZ (P:Program)(E:Env):Prop where
 mixed:P.follows .mixedOrders=true
 fn:∀f fn,E.fn f=some fn→∃an,au P an f=some fn
 gj:∀f as H Q,E.gj f as H Q→∀w0 g w args,SR w0 g H w→ax g w as args→bn P f=true∧CallsIn (Fw none) 0 P f args.toArray w (jQ w0 g w H Q)
inductive l0 (g:Ctx):List T→List Deferred→Prop
 | nil:l0 g [] []
 | cons {b r o q ts df} (h:g.φ b=some (r,o,q)) (hs:l0 g ts df):l0 g (.ptr b 0 :: ts) ({ target:=.collected r,args:=#[] } :: df)
theorem l0.mono {g g':Ctx}{w w':World}(le:Le g w g' w'){ts:List T}{df:List Deferred}(h:l0 g ts df):l0 g' ts df:=by
 induction h with
 | nil=>exact .nil
 | cons h _ ih=>exact .cons (le.φ _ _ h) ih
def Mk (g:Ctx)(t:T)(df:List Deferred):Prop:=∃ts,t=.bl ts∧l0 g ts df
theorem Mk.mono {g g':Ctx}{w w':World}(le:Le g w g' w'){t:T}{df:List Deferred}(h:Mk g t df):Mk g' t df:=let ⟨ts,e,h⟩:=h;⟨ts,e,h.mono le⟩
def eI (w0:World)(n:Nat)(hr:Bool)(df:List Deferred)(mk:T)(g:Ctx)(w:World)(H:aa)(Q:Out→aa→Prop):Exit→Act→World→Prop:=fun e a' w' =>
 ∃ex R' g' H',js e=some ex∧Q (.ex ex R') H'∧Le g w g' w'∧SR w0 g' H' w'∧dg g' w' n R' a'∧Fr g H g' H'∧(Mk g mk df→Mk g' (R' n) a'.defers)∧(hr=false→R' n=mk∧a'.defers=df)
def b7 (P:Program)(g:Ctx):Prop:=∀n c k,g.ck n c k↔∃an,av P n an false k=some c
theorem b7.mono {P:Program}{g g':Ctx}{w w':World}(le:Le g w g' w')(h:b7 P g):b7 P g':=fun n c k=>by rw[le.ck];exact h n c k
def iQ (F:Fence)(n:Nat)(P:Program)(c:Code)(Q:Exit→Act→World→Prop)(a:Act)(w:World):Prop :=
 ∀(b:Frame) (k:List Item) (cs:List Frame),b.roundOf=F.round→F.fn b.fn→F.room (cs.length+1+n) →
  ∃e a' w',Q e a' w'∧ArrivesIn (Machine.fenced P F) P (lone (b.atR a (.code c :: .inLoop c :: k)) cs w) b k cs e a' w'
theorem l3 {F:Fence}{n:Nat}{P:Program}{c:Code}{Q:Exit→Act→World→Prop}{a:Act}{w:World}(h:c.wpIn F n P (Exit.then (iQ F n P c Q) Q) a w):iQ F n P c Q a w:=by
 intro b k cs B0 hb hr
 obtain⟨e,a₁,w₁,hq,fU⟩:=h b (.inLoop c :: k) cs B0 hb hr
 cases e with
 | normal =>
  obtain⟨e₂,a₂,w₂,E7,z9⟩:=hq b k cs B0 hb hr
  exact⟨e₂,a₂,w₂,E7,.of_steps (StepsIn.trans fU (.one (fenced_calm hb hr rfl) stepR_inLoop)) z9⟩
 | exit id=>exact⟨_,a₁,w₁,hq,.pass (x:=.inLoop c) rfl (fun _ _=>.inl (by simp)) fU⟩
 | goto l=>exact⟨_,a₁,w₁,hq,.pass (x:=.inLoop c) rfl (fun _ _=>.inl (by simp)) fU⟩
 | ret=>exact⟨_,a₁,w₁,hq,.pass (x:=.inLoop c) rfl (fun _ _=>.inl (by simp)) fU⟩
 | panic ch=>exact⟨_,a₁,w₁,hq,.pass (x:=.inLoop c) rfl (fun _ _=>.inl (by simp)) fU⟩
 | outgrown=>exact⟨_,a₁,w₁,hq,.pass (x:=.inLoop c) rfl (fun _ _=>.inl (by simp)) fU⟩
theorem pH {F:Fence}{n:Nat}{P:Program}{c:Code}{Q:Exit→Act→World→Prop}{a:Act}{w:World}(h:iQ F n P c Q a w):(Code.loop c).wpIn F n P Q a w :=
 fun b k cs B0 hb hr=>let ⟨e,a',w',hq,fU⟩:=h b k cs B0 hb hr;⟨e,a',w',hq,.of_steps (.one (fenced_calm hb hr rfl) stepR_loop) fU⟩
section
variable {P:Program} {w0 w ws:World} {g g0:Ctx} {H H0 H':aa} {R:ah} {a:Act} {n:Nat} {ops:Array Oper} {r:Option Nat} {mu:Bool} {i:Nat} {o:Oper} {st jh:List Rd}
theorem fZ {y:O}(hc:bV P n ops mu o st=some y):∀t∈tmpsOf o y.op y.g,t<n:=by
 obtain⟨op,gd,_,_,rfl,h,_⟩:=ak hc;exact h
theorem og {d:Option Nat}{op:tO}{gd:Gd}(ho:ops[i]?=some o)(hc:bV P n ops mu o st=some ⟨d,op,gd,jh⟩)(hn:a.tmps.size=n)(hr:cB g w R a (tmpsOf o op gd))(hw:aq R gd=false)
  {K:Act→World→Prop} {Q:Exit→Act→World→Prop} (hk:K (a.put d undef) w):wpOpIn (Fw r) 0 P ops Q i K a w:=by
 obtain⟨yj,yk,h1,h2,h3,h4,h5⟩:=ak hc
 cases h3
 unfold wpOpIn
 simp only[ho,gD h2 hn (fun t ht=>h4 t (by simp[tmpsOf,ht])) (hr.sub fun t ht=>by simp[tmpsOf,ht]),hw]
 exact⟨fun _ _=>trivial,hk⟩
theorem cS {d:Option Nat}{op:tO}{gd:Gd}(ho:ops[i]?=some o)(hc:bV P n ops mu o st=some ⟨d,op,gd,jh⟩)(hn:a.tmps.size=n)(hr:cB g w R a (tmpsOf o op gd))(hw:aq R gd=true)
  {K:Act→World→Prop} {Q:Exit→Act→World→Prop} (hk:o.wpIn (Fw r) 0 P a w K Q):wpOpIn (Fw r) 0 P ops Q i K a w:=by
 obtain⟨yj,yk,h1,h2,h3,h4,h5⟩:=ak hc
 cases h3
 unfold wpOpIn
 simp only[ho,gD h2 hn (fun t ht=>h4 t (by simp[tmpsOf,ht])) (hr.sub fun t ht=>by simp[tmpsOf,ht]),hw,if_true]
 exact hk
theorem eX {op:tO}{gd:Gd}(hr:cB g w R a (tmpsOf o op gd)):cB g w R a (bO o.op.operands.toList):=hr.sub fun t ht=>by simp[tmpsOf,ht]
theorem kO {d:Option Nat}{b:Bo}{gd:Gd}{t:T}(ho:ops[i]?=some o)(hc:bV P n ops mu o st=some ⟨d,.b b,gd,jh⟩)(hn:a.tmps.size=n)(hr:cB g w R a (tmpsOf o (.b b) gd))(hw:aq R gd=true)
  (h:SR w0 g H w) (he:ae R H b=some (t,H')) :
  ∃v w' g',(∀(K:Act→World→Prop) (Q:Exit→Act→World→Prop),K (a.put d v) w'→wpOpIn (Fw r) 0 P ops Q i K a w)∧Le g w g' w'∧SR w0 g' H' w'∧VR g' w' t v∧Fr g H g' H':=by
 obtain⟨yj,yk,h1,h2,h3,h4,h5⟩:=ak hc
 cases h3
 obtain⟨v,w',g',hs,rest⟩:=qV (r:=r) h1 h (eX hr) he
 exact⟨v,w',g',fun K Q hk=>cS ho hc hn hr hw (hs K Q hk),rest⟩
theorem l4 {d:Option Nat}{x:X}{gd:Gd}{b bi:Nat}{es:List (T×T)}{ix:List Nat}{cur:Option Nat}(ho:ops[i]?=some o)(hc:bV P n ops mu o st=some ⟨d,.b (.gW x),gd,jh⟩)(hn:a.tmps.size=n)(hr:cB g w R a (tmpsOf o (.b (.gW x)) gd))(hw:aq R gd=true)
  (h:SR w0 g H w) (hx:x.ev R=.ptr bi 0) (hb:H[b]?=some (.cr es ix bi cur)) :
  ∃t H' v w' g',fM H b bi es ix t H'∧(∀(K:Act→World→Prop) (Q:Exit→Act→World→Prop),K (a.put d v) w'→wpOpIn (Fw r) 0 P ops Q i K a w)∧Le g w g' w'∧SR w0 g' H' w'∧VR g' w' t v∧Fr g H g' H':=by
 obtain⟨yj,yk,h1,h2,h3,h4,h5⟩:=ak hc
 cases h3
 obtain⟨t,H',v,w',g',vD,hs,rest⟩:=qW (r:=r) h1 h (eX hr) hx hb
 exact⟨t,H',v,w',g',vD,fun K Q hk=>cS ho hc hn hr hw (hs K Q hk),rest⟩
theorem jR {d:Option Nat}{neg:Bool}{x y:X}{gd:Gd}(ho:ops[i]?=some o)(hc:bV P n ops mu o st=some ⟨d,.b (.gV neg .slice x y),gd,jh⟩)(hn:a.tmps.size=n)(hr:cB g w R a (tmpsOf o (.b (.gV neg .slice x y)) gd))(hw:aq R gd=true)
  (hx:x.ev R=.sl .arg []) (hy:y.ev R=.sl .nil []):∃b:Bool,∀(K:Act→World→Prop) (Q:Exit→Act→World→Prop),K (a.put d (.bool b)) w→wpOpIn (Fw r) 0 P ops Q i K a w:=by
 obtain⟨yj,yk,h1,h2,h3,h4,h5⟩:=ak hc
 cases h3
 obtain⟨b,hs⟩:=pG (r:=r) h1 (eX hr) hx hy
 exact⟨b,fun K Q hk=>cS ho hc hn hr hw (hs K Q hk)⟩
theorem jS {d:Option Nat}{f:Nat}{as:List X}{gd:Gd}{M:T→aa→Prop}(ho:ops[i]?=some o)(hc:bV P n ops mu o st=some ⟨d,.call f as,gd,jh⟩)(hn:a.tmps.size=n)(hr:cB g w R a (tmpsOf o (.call f as) gd))(hw:aq R gd=true)
  (ih:∀args,ax g w (as.map (X.ev R)) args→bn P f=true∧CallsIn (Fw none) 0 P f args.toArray w (jQ w0 g w H M)) {K:Act→World→Prop} {Q:Exit→Act→World→Prop}
  (hk:∀v w' g' H' t,M t H'→Le g w g' w'→SR w0 g' H' w'→VR g' w' t v→Fr g H g' H'→K (a.put d v) w'):wpOpIn (Fw r) 0 P ops Q i K a w:=by
 obtain⟨yj,yk,h1,h2,h3,h4,h5⟩:=ak hc
 cases h3
 obtain⟨args,hv,hs⟩:=pA (r:=r) h1 (eX hr)
 obtain⟨k1,k2⟩:=ih args hv
 exact cS ho hc hn hr hw (hs K Q k1 (k2.mono fun e w' ⟨v,t,g',H',he,hM,le,sr,bQ,fr⟩=>⟨v,he,hk v w' g' H' t hM le sr bQ fr⟩))
theorem iR {d:Option Nat}{x:X}{f:Nat}{cs:List T}{as:List X}{gd:Gd}{M:T→aa→Prop}(ho:ops[i]?=some o)(hc:bV P n ops mu o st=some ⟨d,.aQ x as,gd,jh⟩)(hn:a.tmps.size=n)(hr:cB g w R a (tmpsOf o (.aQ x as) gd))(hw:aq R gd=true)
  (hx:x.ev R=.fn f cs) (ih:∀args,ax g w (as.map (X.ev R)++cs) args→bn P f=true∧CallsIn (Fw none) 0 P f args.toArray w (jQ w0 g w H M)) {K:Act→World→Prop} {Q:Exit→Act→World→Prop}
  (hk:∀v w' g' H' t,M t H'→Le g w g' w'→SR w0 g' H' w'→VR g' w' t v→Fr g H g' H'→K (a.put d v) w'):wpOpIn (Fw r) 0 P ops Q i K a w:=by
 obtain⟨yj,yk,h1,h2,h3,h4,h5⟩:=ak hc
 cases h3
 obtain⟨args,hv,hs⟩:=nz (r:=r) h1 (eX hr) hx
 obtain⟨k1,k2⟩:=ih args hv
 exact cS ho hc hn hr hw (hs K Q k1 (k2.mono fun e w' ⟨v,t,g',H',he,hM,le,sr,bQ,fr⟩=>⟨v,he,hk v w' g' H' t hM le sr bQ fr⟩))
theorem dg.put {d:Option Nat}{v:Value}{t:T}{w':World}{g':Ctx}(h:dg g w n R a)(hd:∀e,d=some e→e<n)(le:Le g w g' w')(hv:VR g' w' t v):dg g' w' n (aw R d t) (a.put d v):=by
 refine⟨by rw[iL];exact h.1,fun u hu=>?_⟩
 rw[iK _ _ _ _ (by rw[h.1];exact hd)]
 split
 ·rename_i e;rw[e,dr];exact hv
 ·rename_i e;rw[aN e];exact(h.2 u hu).mono le
theorem dg.rg (h:dg g w n R a){ts:List Nat}(ht:∀t∈ts,t<n):cB g w R a ts:=fun t hm=>h.2 t (ht t hm)
end
section
variable {P:Program} {n:Nat} {ops:Array Oper} {mu:Nat→Bool} {w0 ws:World} {df:List Deferred} {mk:T} {g0:Ctx} {H0:aa} {pre:List It} {r:Option Nat} {x:It} {o:Oper} {Q:Out→aa→Prop}
def left (L:Array Bool):Nat:=L.toList.count false
theorem iS {L:Array Bool}{i:Nat}(hi:i<L.size)(hf:L.getD i false=false):left (L.setIfInBounds i true)+1=left L:=by
 unfold left
 rw[Array.toList_setIfInBounds,List.count_set (by simpa using hi)]
 have hg:L.toList[i]'(by simpa using hi)=false:=by
  rw[Array.getD_eq_getD_getElem?,Array.getElem?_eq_getElem hi,Option.getD_some]at hf
  simpa using hf
 have xW:0<L.toList.count false:=List.count_pos_iff.2 (hg▸List.getElem_mem _)
 rw[hg]
 have e1:((false==false:Bool)=true):=rfl
 have e2:¬((true==false:Bool)=true):=by decide
 rw[if_pos e1,if_neg e2]
 omega
theorem jT {L:Array Bool}(h:left L=0){i:Nat}(hi:i<L.size):L.getD i false=true:=by
 cases e:L.getD i false with
 | true=>rfl
 | false=>have:=iS hi e;omega
theorem jU {L:Array Bool}(cX:L.size=ops.size)(x7:∀i o,ops[i]?=some o→∀j∈aU o,j<i)(h:Region.ready .any ops L=[]):∀i,i<ops.size→L.getD i false=true:=by
 intro i
 induction i using Nat.strongRecOn with
 | _ i ih =>
  intro hi
  cases e:L.getD i false with
  | true=>rfl
  | false =>
   have:i∈Region.ready .any ops L:=by
    rw[mem_ready]
    refine⟨?_,ops[i],Array.getElem?_eq_getElem hi,fun ed he hb=>?_⟩
    ·have gh:i<L.size:=by omega
     rw[Array.getD_eq_getD_getElem?,Array.getElem?_eq_getElem gh]at e ⊢;exact e
    ·have hj:ed.on∈aU ops[i]:=by simp only[aU,List.mem_map,List.mem_filter];exact⟨ed,⟨by simpa using he,hb⟩,rfl⟩
     have:=x7 i _ (Array.getElem?_eq_getElem hi) _ hj
     exact ih _ this (by omega)
   rw[h]at this;cases this
theorem pI {R:ah}{H:aa}(dR:∀i,i<ops.size→∃y∈pre,y.i=i)(hQ:Q (.ex .normal R) H):∀(fuel:Nat) (L:Array Bool) (g:Ctx) (a:Act) (w:World),left L≤fuel→Dr P n ops mu w0 df mk g0 ws H0 pre L g R H a w →
  wpAnyIn (Fw r) 0 P .any ops (nE w0 n df mk g0 ws H0 Q) fuel L a w:=by
 have fin:∀(L:Array Bool) (g:Ctx) (a:Act) (w:World),Dr P n ops mu w0 df mk g0 ws H0 pre L g R H a w→(∀i,i<ops.size→L.getD i false=true)→nE w0 n df mk g0 ws H0 Q .normal a w:=by
  intro L g a w h hl
  refine⟨.normal,R,g,H,rfl,hQ,h.le,h.sr,⟨h.kM,fun t ht=>h.kN t ht fun y hy hu=>?_⟩,h.fr,h.wI,h.wJ⟩
  obtain⟨o,ho,_⟩:=h.cmp y hy
  rw[hl y.i (Array.getElem?_eq_some_iff.1 ho).1]at hu;cases hu
 have x7:∀(L:Array Bool) (g:Ctx) (a:Act) (w:World),Dr P n ops mu w0 df mk g0 ws H0 pre L g R H a w→∀i o,ops[i]?=some o→∀j∈aU o,j<i:=by
  intro L g a w h i o ho
  obtain⟨y,hy,rfl⟩:=dR i (Array.getElem?_eq_some_iff.1 ho).1
  exact h.jq y hy o ho
 intro fuel
 induction fuel with
 | zero =>
  intro L g a w hL h
  have hl:∀i,i<ops.size→L.getD i false=true:=fun i hi=>jT (by omega) (by rw[h.nA];exact hi)
  refine⟨?_,fin L g a w h hl⟩
  refine List.eq_nil_iff_forall_not_mem.2 fun i hi=>?_
  obtain⟨h1,o,h2,_⟩:=eW hi
  rw[hl i (Array.getElem?_eq_some_iff.1 h2).1]at h1;cases h1
 | succ fuel ih =>
  intro L g a w hL h
  refine⟨fun hr=>fin L g a w h (jU h.nA (x7 L g a w h) hr),fun i hi=>?_⟩
  obtain⟨h1,o,h2,_⟩:=eW hi
  have aA:=(Array.getElem?_eq_some_iff.1 h2).1
  obtain⟨y,hy,rfl⟩:=dR i aA
  obtain⟨v,w',g',hs,hd⟩:=h.late (r:=r) hy hi
  have:=iS (by rw[h.nA];exact aA) h1
  exact hs _ _ (ih _ _ _ _ (by omega) hd)
theorem bC {R:ah}{H:aa}{Tl:ah→aa→Prop}{Qx:Exit→Act→World→Prop}{l:List It}(hd:Hd P n ops mu pre x o)(hx:x.early=false)(dR:∀i,i<ops.size→∃y∈pre++x :: l,y.i=i)
  (Aa:∀y∈l,(∃o,ops[y.i]?=some o∧(∀j∈aU o,j<y.i))∧∀z∈pre++[x],z.early=true∨((bK ops.toList []).getD y.i 0).testBit z.i=true)
  (hT:∀R' H',Tl R' H'→∀fuel L' g' a' w',left L'≤fuel→Dr P n ops mu w0 df mk g0 ws H0 (pre++[x]) L' g' R' H' a' w'→wpAnyIn (Fw r) 0 P .any ops Qx fuel L' a' w')
  (hX:∀L g a w,Dr P n ops mu w0 df mk g0 ws H0 pre L g R H a w→(∀j∈aU o,L.getD j false=true)→∀K:Act→World→Prop,
   (∀R' H' g' a' w',Tl R' H'→Dr P n ops mu w0 df mk g0 ws H0 (pre++[x]) (L.setIfInBounds x.i true) g' R' H' a' w'→K a' w')→wpOpIn (Fw r) 0 P ops Qx x.i K a w) :
  ∀(fuel:Nat) (L:Array Bool) (g:Ctx) (a:Act) (w:World),left L≤fuel→Dr P n ops mu w0 df mk g0 ws H0 pre L g R H a w→wpAnyIn (Fw r) 0 P .any ops Qx fuel L a w:=by
 have tU:x.i<ops.size:=(Array.getElem?_eq_some_iff.1 hd.ho).1
 intro fuel
 induction fuel with
 | zero =>
  intro L g a w hL h
  have h1:=h.fB hd
  rw[jT (by omega) (by rw[h.nA];exact tU)]at h1;cases h1
 | succ fuel ih =>
  intro L g a w hL h
  have xB:=h.fB hd
  refine⟨fun hr=>?_,fun i hi=>?_⟩
  ·have hl:=jU h.nA (fun i o' fv j hj=>?_) hr x.i tU
   ·rw[hl]at xB;cases xB
   ·obtain⟨y,hy,rfl⟩:=dR i (Array.getElem?_eq_some_iff.1 fv).1
    rcases List.mem_append.1 hy with hy|hy
    ·exact h.jq y hy o' fv j hj
    ·rcases List.mem_cons.1 hy with rfl|hy
     ·rw[hd.ho]at fv;cases fv;exact(hd.pred j hj).1
     ·obtain⟨⟨o2,h2,h3⟩,_⟩:=Aa y hy
      rw[h2]at fv;cases fv;exact h3 j hj
  ·obtain⟨h1,o',h2,h3⟩:=eW hi
   have aA:=(Array.getElem?_eq_some_iff.1 h2).1
   have E8:=iS (by rw[h.nA];exact aA) h1
   obtain⟨y,hy,rfl⟩:=dR i aA
   rcases List.mem_append.1 hy with hy|hy
   ·obtain⟨v,w',g',hs,CN⟩:=h.late (r:=r) hy hi
    exact hs _ _ (ih _ _ _ _ (by omega) CN)
   ·rcases List.mem_cons.1 hy with rfl|hy
    ·rw[hd.ho]at h2;cases h2
     exact hX L g a w h h3 _ fun R' H' g' a' w' ht CN=>hT R' H' ht fuel _ g' a' w' (by omega) CN
    ·obtain⟨⟨o2,h4,h5⟩,h6⟩:=Aa y hy
     rw[h2]at h4;cases h4
     rcases h6 x (by simp)with h7|h7
     ·rw[hx]at h7;cases h7
     ·have:=h.bit h2 (fun j hj=>⟨h5 j hj,h3 j hj⟩) h7
      rw[xB]at this;cases this
end
def CO (P : Program) : J → aa → (Out → aa → Prop) → Prop
  | .code c R, H, Q => ∀(w0 : World) (g : Ctx) (w : World) (a : Act) (n : Nat) (an : An) (top : Bool) (code : Code) (r : Option Nat), av P n an top code = some c → (top = true → r = none) → b7 P g → SR w0 g H w → dg g w n R a →
      code.wpIn (Fw r) 0 P (eI w0 n c.ep a.defers (R n) g w H Q) a w ∧ ∀body, code = .loop body → iQ (Fw r) 0 P body (eI w0 n c.ep a.defers (R n) g w H Q) a w
  | .ops l R, H, Q => (∀(w0 : World) (g0 : Ctx) (ws : World) (H0 : aa) (g : Ctx) (w : World) (a : Act) (n : Nat) (ops : Array Oper) (mu : Nat → Bool) (is : List Nat) (r : Option Nat), cp P n ops mu is = some l → b7 P g → SR w0 g H w → dg g w n R a →
        Le g0 ws g w → Fr g0 H0 g H → wpOpsIn (Fw r) 0 P ops (nE w0 n a.defers (R n) g0 ws H0 Q) is a w) ∧
      (∀(w0 : World) (n : Nat) (ops : Array Oper) (mu : Nat → Bool) (df : List Deferred) (mk : T) (g0 : Ctx) (ws : World) (H0 : aa) (pre : List It) (L : Array Bool) (g : Ctx) (a : Act) (w : World) (ord : List (Nat×Bool)) (dK : List It) (r : Option Nat) (fuel : Nat),
        b7 P g → bu P n ops mu (bK ops.toList []) pre ord = some dK → dK.map (·.o) = l → Dr P n ops mu w0 df mk g0 ws H0 pre L g R H a w → left L ≤ fuel → wpAnyIn (Fw r) 0 P .any ops (nE w0 n df mk g0 ws H0 Q) fuel L a w)
  | .call f as, H, Q => ∀(w0 : World) (g : Ctx) (w : World) (args : List Value), b7 P g → SR w0 g H w → ax g w as args → bn P f = true ∧ CallsIn (Fw none) 0 P f args.toArray w (jQ w0 g w H fun v H' => Q (.val v) H')
theorem eI.trans {w0 w w':World}{n:Nat}{hr fb:Bool}{df CP:List Deferred}{mk mk':T}{g g':Ctx}{H H':aa}{Q:Out→aa→Prop}(le:Le g w g' w')(fr:Fr g H g' H')(hm:Mk g mk df→Mk g' mk' CP)(hh:hr=false→fb=false∧mk'=mk∧CP=df)
  {e:Exit} {a:Act} {u:World} (h:eI w0 n fb CP mk' g' w' H' Q e a u):eI w0 n hr df mk g w H Q e a u:=by
 obtain⟨ex,R',g2,H2,h1,h2,h3,h4,h5,h6,h7,h8⟩:=h
 refine⟨ex,R',g2,H2,h1,h2,le.trans h3,h4,h5,fr.trans h6,fun m=>h7 (hm m),fun e=>?_⟩
 obtain⟨k1,k2,k3⟩:=hh e
 obtain⟨k4,k5⟩:=h8 k1
 exact⟨k4.trans k2,k5.trans k3⟩
theorem nE.D3 {w0 w:World}{n:Nat}{hr:Bool}{df:List Deferred}{mk:T}{g:Ctx}{H:aa}{Q:Out→aa→Prop}{e:Exit}{a:Act}{u:World}(h:nE w0 n df mk g w H Q e a u):eI w0 n hr df mk g w H Q e a u:=by
 obtain⟨ex,R',g2,H2,h1,h2,h3,h4,h5,h6,h7,h8⟩:=h
 exact⟨ex,R',g2,H2,h1,h2,h3,h4,h5,h6,fun m=>by rw[h7,h8];exact m.mono h3,fun _=>⟨h8,h7⟩⟩
section
variable {P:Program} {n:Nat} {an:An} {top:Bool} {code:Code}
theorem rh (h:av P n an top code=some .skip):code=.skip:=by
 cases code<;>(try simp only[av]at h)
 case region id ops draw=>cases draw<;>simp only[av]at h<;>(repeat' split at h)<;>simp at h
 all_goals first|rfl|(cases h;done)|((repeat' split at h)<;>simp at h;done)|(simp at h;done)
theorem rl {id:Nat}(h:av P n an top code=some (.exit id)):code=.exit id:=by
 cases code<;>(try simp only[av]at h)
 case region id ops draw=>cases draw<;>simp only[av]at h<;>(repeat' split at h)<;>simp at h
 all_goals first|(cases h;rfl)|(cases h;done)|((repeat' split at h)<;>simp at h;done)|(simp at h;done)
theorem vJ (h:av P n an top code=some .ret):code=.ret:=by
 cases code<;>(try simp only[av]at h)
 case region id ops draw=>cases draw<;>simp only[av]at h<;>(repeat' split at h)<;>simp at h
 all_goals first|rfl|(cases h;done)|((repeat' split at h)<;>simp at h;done)|(simp at h;done)
theorem vK {x y:C}(h:av P n an top code=some (.seq x y)):∃c d,code=.seq c d∧av P n an top c=some x∧av P n an top d=some y:=by
 cases code<;>(try simp only[av]at h)
 case region id ops draw=>cases draw<;>simp only[av]at h<;>(repeat' split at h)<;>simp at h
 case seq c d =>
  split at h
  ·rename_i h1 h2;cases h;exact⟨c,d,rfl,h1,h2⟩
  ·cases h
 all_goals first|(cases h;done)|((repeat' split at h)<;>simp at h;done)|(simp at h;done)
theorem rm {c:X}{x y:C}(h:av P n an top code=some (.cond c x y)):∃o d e,code=.cond o d e∧ai o=some c∧av P n an top d=some x∧av P n an top e=some y∧∀t,o=.tmp t→t<n:=by
 cases code<;>(try simp only[av]at h)
 case region id ops draw=>cases draw<;>simp only[av]at h<;>(repeat' split at h)<;>simp at h
 case cond o d e =>
  split at h
  ·rename_i h1 h2 h3
   cases o with
   | tmp t =>
    simp only[decide_eq_true_eq]at h
    split at h
    ·rename_i h4;cases h;exact⟨_,d,e,rfl,h1,h2,h3,fun t' ht=>by cases ht;exact h4⟩
    ·cases h
   | _=>simp at h;obtain⟨rfl,rfl,rfl⟩:=h;exact⟨_,d,e,rfl,h1,h2,h3,fun t ht=>by cases ht⟩
  ·cases h
 all_goals first|(cases h;done)|((repeat' split at h)<;>simp at h;done)|(simp at h;done)
theorem pJ {id:Nat}{x:C}(h:av P n an top code=some (.block id x)):∃c,code=.block id c∧av P n an top c=some x:=by
 cases code<;>(try simp only[av]at h)
 case region id ops draw=>cases draw<;>simp only[av]at h<;>(repeat' split at h)<;>simp at h
 case block E9 c =>
  simp only[Option.map_eq_some_iff]at h
  obtain⟨x',h1,h2⟩:=h
  cases h2;exact⟨c,rfl,h1⟩
 all_goals first|(cases h;done)|((repeat' split at h)<;>simp at h;done)|(simp at h;done)
theorem rn {x:C}(h:av P n an top code=some (.loop x)):∃c,code=.loop c∧av P n an top c=some x:=by
 cases code<;>(try simp only[av]at h)
 case region id ops draw=>cases draw<;>simp only[av]at h<;>(repeat' split at h)<;>simp at h
 case loop c =>
  simp only[Option.map_eq_some_iff]at h
  obtain⟨x',h1,h2⟩:=h
  cases h2;exact⟨c,rfl,h1⟩
 all_goals first|(cases h;done)|((repeat' split at h)<;>simp at h;done)|(simp at h;done)
theorem pK {m:Nat}{x:X}{ps:List Nat}{y z:C}(h:av P n an top code=some (.bd m x ps y z)):∃g qs c d,code=.rangeFunc g qs c d∧ai g=some x∧av P n an false c=some y∧av P n an false d=some z∧top=true∧(∀t∈bj x,t<n)∧qs.toList=ps∧(∀p∈ps,p<n)∧m=n:=by
 cases code<;>(try simp only[av]at h)
 case region id ops draw=>cases draw<;>simp only[av]at h<;>(repeat' split at h)<;>simp at h
 case rangeFunc g qs c d =>
  split at h
  ·rename_i h1 h2 h3
   split at h
   ·rename_i h4
    cases h
    simp only[Bool.and_eq_true,List.all_eq_true,decide_eq_true_eq]at h4
    exact⟨g,qs,c,d,rfl,h1,h2,h3,h4.1.1,h4.1.2,rfl,h4.2,rfl⟩
   ·cases h
  ·cases h
 all_goals first|(cases h;done)|((repeat' split at h)<;>simp at h;done)|(simp at h;done)
theorem vL {l:List O}(h:av P n an top code=some (.ops l)):∃id ops mu,(code=.region id ops false∧cp P n ops mu (List.range ops.size)=some l) ∨
  (code=.region id ops true∧∃ord dK,bu P n ops mu (bK ops.toList []) [] ord=some dK∧dK.map (·.o)=l):=by
 cases code<;>(try simp only[av]at h)
 case region id ops draw =>
  cases draw<;>simp only[av]at h
  ·simp only[Option.map_eq_some_iff]at h
   obtain⟨l',h1,h2⟩:=h
   cases h2;exact⟨id,ops,_,.inl ⟨rfl,h1⟩⟩
  ·split at h
   ·rename_i ord _
    simp only[Option.map_eq_some_iff]at h
    obtain⟨dK,h1,h2⟩:=h
    cases h2;exact⟨id,ops,_,.inr ⟨rfl,ord,dK,h1,rfl⟩⟩
   ·cases h
 all_goals first|(cases h;done)|((repeat' split at h)<;>simp at h;done)|(simp at h;done)
end
theorem ba {P:Program}{n:Nat}{ops:Array Oper}{mu:Nat→Bool}{is:List Nat}{o:O}{l:List O}(h:cp P n ops mu is=some (o :: l)) :
  ∃i ji oper,is=i :: ji∧ops[i]?=some oper∧bV P n ops (mu i) oper []=some o∧cp P n ops mu ji=some l:=by
 cases is with
 | nil=>simp[cp]at h
 | cons i ji =>
  simp only[cp]at h
  split at h
  ·rename_i oper ho
   split at h
   ·rename_i h1 h2;cases h;exact⟨i,ji,oper,rfl,ho,h1,h2⟩
   ·cases h
  ·cases h
theorem l5 {P:Program}{n:Nat}{ops:Array Oper}{mu:Nat→Bool}{is:List Nat}(h:cp P n ops mu is=some []):is=[]:=by
 cases is with
 | nil=>rfl
 | cons i ji =>
  simp only[cp]at h
  split at h
  ·split at h<;>simp at h
  ·cases h
theorem cC {P:Program}{n:Nat}{ops:Array Oper}{mu:Nat→Bool}{pre:List It}{ord:List (Nat×Bool)}{dK:List It}{o:O}{l:List O}(h:bu P n ops mu (bK ops.toList []) pre ord=some dK)(hm:dK.map (·.o)=o :: l) :
  ∃x l' bR oper,dK=x :: l'∧x.o=o∧l'.map (·.o)=l∧Hd P n ops mu pre x oper∧bu P n ops mu (bK ops.toList []) (pre++[x]) bR=some l':=by
 cases ord with
 | nil =>
  simp only[bu]at h
  split at h
  ·cases h;simp at hm
  ·cases h
 | cons y bR =>
  obtain⟨x,l',oper,rfl,h1,h2⟩:=ea h
  simp only[List.map_cons,List.cons.injEq]at hm
  exact⟨x,l',bR,oper,rfl,hm.1,hm.2,h1,h2⟩
section
variable {P:Program} {n:Nat} {ops:Array Oper} {mu:Nat→Bool} {w0 w ws:World} {df:List Deferred} {mk:T} {g g0:Ctx} {H H0 H':aa} {pre:List It} {L:Array Bool} {R:ah} {a:Act} {r:Option Nat} {x:It} {o:Oper}
theorem Hd.sub (hd:Hd P n ops mu pre x o)(v:T):(∀t∈ff x.o.g,aw R x.o.d v t=R t)∧∀t∈lP x.o.op,aw R x.o.d v t=R t:=by
 obtain⟨t1,t2,_⟩:=cO hd.ts
 exact⟨fun t ht=>aN fun e=>(hd.dst t e).2 (t1 t ht),fun t ht=>aN fun e=>(hd.dst t e).2 (t2 t ht)⟩
theorem Dr.vM (h:Dr P n ops mu w0 df mk g0 ws H0 pre L g R H a w)(hd:Hd P n ops mu pre x o)(he:x.early=true)(hw:aq R x.o.g=false):Dr P n ops mu w0 df mk g0 ws H0 (pre++[x]) L g (aw R x.o.d ar) H a w:=by
 refine h.take hd he (.inl ⟨?_,fun d e=>by rw[e,dr]⟩) (.inl rfl) fun k hk=>?_
 ·rw[eH (R':=R) (hd.sub ar).1];exact hw
 ·unfold dZ at hk
  split at hk
  ·rename_i e _;rw[e,dr]at hk;cases hk
  ·rename_i e _;rw[e,dr]at hk;cases hk
  ·cases hk
theorem Dr.vN {b:Bo}{v:T}(h:Dr P n ops mu w0 df mk g0 ws H0 pre L g R H a w)(hd:Hd P n ops mu pre x o)(he:x.early=true)(hb:x.o.op=.b b)(hw:aq R x.o.g=true)(hv:ae R H b=some (v,H')) :
  Dr P n ops mu w0 df mk g0 ws H0 (pre++[x]) L g (aw R x.o.d v) H' a w:=by
 obtain⟨k1,k2⟩:=hd.kl he
 cases vO:x.o.d with
 | none=>exact absurd (by simp[tY,hb,vO]) k1
 | some d =>
  have Fa:tY x.o=gC b:=by simp[tY,hb,vO]
  rw[Fa]at k1 k2
  have na:aq (aw R x.o.d v) x.o.g=true:=by rw[eH (R':=R) (hd.sub v).1];exact hw
  have Fb:∀H2,ae (aw R x.o.d v) H2 b=ae R H2 b:=fun H2=>iJ fun t ht=>(hd.sub v).2 t (by rw[hb];exact ht)
  have CQ:aw R x.o.d v d=v:=by rw[vO,dr]
  rw[←vO]
  have hq:(gC b=.pure∨gC b=.read)→H'=H→Dr P n ops mu w0 df mk g0 ws H0 (pre++[x]) L g (aw R x.o.d v) H' a w:=by
   rintro hk rfl
   refine h.take hd he (.inr ⟨na,d,b,vO,hb,.inl ⟨hk,by rw[Fb,CQ];exact hv⟩⟩) (.inl rfl) fun k hm=>?_
   unfold dZ at hm
   rw[hb]at hm
   split at hm
   ·rename_i h1;cases h1;simp[gC]at hk
   ·rename_i h1;cases h1;simp[gC]at hk
   ·cases hm
  cases hk:gC b with
  | wH=>exact absurd hk k1
  | pure=>exact hq (.inl hk) (eU hk hv).1
  | read=>exact hq (.inr hk) (eV hk hv).1
  | make =>
   have D4:H0.length≤H.length:=h.fr.1
   cases b<;>simp only[gC]at hk<;>(try (cases hk;done))
   case gV=>split at hk<;>cases hk
   case alloc z =>
    simp only[ae,Option.some.injEq,Prod.mk.injEq]at hv
    obtain⟨rfl,rfl⟩:=hv
    refine h.take hd he (.inr ⟨na,d,_,vO,hb,.inr (.inl ⟨H.length,z,rfl,CQ,bh _ _,h.sr.tV (Nat.le_refl _),D4⟩)⟩) (.inr ⟨_,rfl,.inl ⟨_,rfl⟩⟩) fun k hm=>?_
    simp only[dZ,vO,hb,dr,fh,Option.some.injEq]at hm
    omega
   case mS =>
    simp only[ae,Option.some.injEq,Prod.mk.injEq]at hv
    obtain⟨rfl,rfl⟩:=hv
    refine h.take hd he (.inr ⟨na,d,_,vO,hb,.inr (.inr ⟨H.length,rfl,CQ,bh _ _,h.sr.tV (Nat.le_refl _),D4⟩)⟩) (.inr ⟨_,rfl,.inr ⟨_,rfl⟩⟩) fun k hm=>?_
    simp only[dZ,vO,hb,dr,fh,Option.some.injEq]at hm
    omega
theorem Dr.bD (h:Dr P n ops mu w0 df mk g0 ws H0 pre L g R H a w)(hd:Hd P n ops mu pre x o)(hp:∀j∈aU o,L.getD j false=true):cB g w R a (tmpsOf o x.o.op x.o.g) :=
 h.look hd.ho (fun j hj=>⟨(hd.pred j hj).1,hp j hj⟩) (fZ hd.co) fun z hz _ d hZ ht=>hd.CK z hz d hZ (by rw[hd.ts];exact ht)
theorem Dr.stays (h:Dr P n ops mu w0 df mk g0 ws H0 pre L g R H a w)(hd:Hd P n ops mu pre x o)(he:x.early=false)(hp:∀j∈aU o,L.getD j false=true)(hs:cF R H' x.o.gX) :
  ∀y∈pre,L.getD y.i false=false→∀d b,aq R y.o.g=true→y.o.d=some d→y.o.op=.b b→gC b=.read→ae R H b=some (R d,H)→ae R H' b=some (R d,H'):=by
 intro y hy hu d b hw vE Fc hk _
 have od:y.early=true:=by cases e:y.early with|true=>rfl|false=>rw[h.iM y hy e]at hu;cases hu
 have CR:((bK ops.toList []).getD x.i 0).testBit y.i=false:=by
  cases e:((bK ops.toList []).getD x.i 0).testBit y.i with
  | false=>rfl
  | true=>rw[h.bit hd.ho (fun j hj=>⟨(hd.pred j hj).1,hp j hj⟩) e]at hu;cases hu
 have hm:=iP pre hy od vE Fc hk CR
 rw[←hd.st he]at hm
 exact hs _ hm hw
end
theorem l6 {g:Ctx}{w:World}{n:Nat}:∀(ps:List Nat) (vs:List T) (us:List Value) (R:ah) (tmps:Array Value),ax g w vs us→vs.length=ps.length→tmps.size=n→(∀t,t<n→VR g w (R t) (tmps.getD t undef))→(∀p∈ps,p<n) →
  ((ps.zip us).foldl (fun tmps (t,a)=>tmps.setIfInBounds t a) tmps).size=n∧∀t,t<n→VR g w (fJ R ps vs t) (((ps.zip us).foldl (fun tmps (t,a)=>tmps.setIfInBounds t a) tmps).getD t undef)
 | [],vs,us,R,tmps,hv,hl,hn,hr,_=>by
  cases vs with
  | nil=>exact⟨by simpa using hn,by simpa[fJ]using hr⟩
  | cons _ _=>simp at hl
 | p :: ps,[],us,R,tmps,hv,hl,hn,hr,_=>by simp at hl
 | p :: ps,v :: vs,[],R,tmps,hv,hl,hn,hr,_=>by have:=hv.1;simp at this
 | p :: ps,v :: vs,u :: us,R,tmps,hv,hl,hn,hr,hp=>by
  simp only[List.zip_cons_cons,List.foldl_cons,fJ]
  refine l6 ps vs us (gg R p v) (tmps.setIfInBounds p u) hv.tail (by simpa using hl) (by simpa using hn) (fun t ht=>?_) (fun q hq=>hp q (by simp[hq]))
  have xP:p<tmps.size:=by rw[hn];exact hp p (by simp)
  by_cases e:p=t
  ·subst e;simp only[gg,if_true];rw[Array.getD_eq_getD_getElem?];simp[xP];exact hv.head
  ·simp only[gg];rw[if_neg (Ne.symm e),Array.getD_eq_getD_getElem?,Array.getElem?_setIfInBounds_ne e,←Array.getD_eq_getD_getElem?];exact hr t ht
section
variable {P:Program} {w0 w ws:World} {g g0:Ctx} {H H0 H':aa} {R:ah} {a:Act} {n:Nat} {ops:Array Oper} {r:Option Nat} {mu:Bool} {i:Nat} {o:Oper} {st jh:List Rd}
theorem rp {e:Ex}(h:e≠.normal):(∃id,e=.exit id∧lz (some e)=some (.exit id))∨(e=.ret∧lz (some e)=some .ret):=by
 cases e with
 | normal=>exact absurd rfl h
 | exit id=>exact .inl ⟨id,rfl,rfl⟩
 | ret=>exact .inr ⟨rfl,rfl⟩
theorem l7 {d:Option Nat}{x:X}{as:List X}{gd:Gd}{b m:Nat}{R0:ah}{ps:List Nat}{bc body:C}{M1 M:Out→aa→Prop}(ho:ops[i]?=some o)(hc:bV P n ops mu o st=some ⟨d,.aQ x as,gd,jh⟩)(hn:a.tmps.size=n)(hr:cB g w R a (tmpsOf o (.aQ x as) gd))(hw:aq R gd=true)
  (hx:x.ev R=.gL b) (hb:H[b]?=some (.loop .ready none m R0 ps bc body)) (hlen:as.length=ps.length) (ck:b7 P g) (sr:SR w0 g H w)
  (lj:CO P (.code bc (fJ R0 ps (as.map (X.ev R)))) H M1) (o4:∀o H',M1 o H'→(∃R1,o=.ex .normal R1)∧H'[b]?=some (.loop .ready none m R0 ps bc body))
  (fI:∀R1 H1,M1 (.ex .normal R1) H1→CO P (.code body R1) (H1.set b (.loop .busy none m R0 ps bc body)) M) (lx:∀o H',M o H'→H'[b]?=some (.loop .busy none m R0 ps bc body))
  {K:Act→World→Prop} {Q:Exit→Act→World→Prop}
  (hk:∀v w' g' H' t,((∃R' H2,M (.ex .normal R') H2∧t=.bool true∧H'=H2.set b (.loop .ready none m R0 ps bc body))∨(∃e R' H2,M (.ex e R') H2∧e≠.normal∧t=.bool false∧H'=H2.set b (.loop .done (some e) m R0 ps bc body))) →
   Le g w g' w'→SR w0 g' H' w'→VR g' w' t v→Fr g H g' H'→K (a.put d v) w'):wpOpIn (Fw r) 0 P ops Q i K a w:=by
 obtain⟨yj,yk,h1,h2,h3,h4,h5⟩:=ak hc
 cases h3
 refine cS ho hc hn hr hw ⟨fun _ _=>trivial,?_⟩
 have jH:=cR h1
 obtain⟨t,args,dq,rfl,zj,h6⟩:=fg h1 (by rintro rfl;cases hx)
 have iT:=eX hr
 have hv:=cf (ρ:=a.eval) args.toList as h6 (jO (iT.sub fun t ht=>by
  simp only[bO,List.mem_filterMap]at ht ⊢
  obtain⟨x,hx,e⟩:=ht
  exact⟨x,by rw[zj];simp only[Op.operands,Call.operands];simp at hx;simp[hx],e⟩))
 have hf:=iT t (by rw[zj];simp only[bO,List.mem_filterMap];exact⟨.tmp t,by simp[Op.operands,Call.operands],rfl⟩)
 simp only[X.ev]at hx
 rw[hx]at hf
 generalize px:a.tmps.getD t undef=vf at hf
 cases hf with
 | @gL _ l o' q' hφ =>
  obtain⟨k1,rec,k2,k3,k4,k5,k6,k7,k8,k9,Fe⟩:=sr.dv b _ hb l o' q' hφ
  rw[Oper.semAt_eq _ _ _ jH]
  have cX:(args.toList.map a.eval).toArray.size=rec.params.size:=by
   have:=hv.1;simp at this
   have e2:rec.params.size=ps.length:=by rw[←k5];simp
   simp[e2,←hlen,this]
  have aK:(execOp a.eval o).run P w=.ok (.round l rec.fn ((rec.params.zip (args.toList.map a.eval).toArray).foldl (fun tmps (t,a)=>tmps.setIfInBounds t a) rec.tmps) rec.assign rec.body) w:=by
   have hy:=run_yield (P:=P) (args:=(args.toList.map a.eval).toArray) k2 cX
   have e2:(args.toList.map a.eval).toArray=args.map a.eval:=by rw[←Array.toList_map]
   rw[e2]at hy ⊢
   have e:a.eval (.tmp t)=.func (.yield l) #[] #[]:=px
   simp only[execOp,zj,resolve,e,Deferred.ofValue,invoke]
   simpa using hy
  rw[aK,Oper.uponIn_round]
  refine⟨fun h=>by simp[Fw]at h,roundIn_of_wpIn trivial ?_⟩
  have pZ:(rec.params.zip (args.toList.map a.eval).toArray).foldl (fun tmps (t,a)=>tmps.setIfInBounds t a) rec.tmps=(ps.zip (args.toList.map a.eval)).foldl (fun tmps (t,a)=>tmps.setIfInBounds t a) rec.tmps:=by
   rw[←Array.foldl_toList,Array.toList_zip,k5]
  rw[pZ]
  have nf:=l6 ps (as.map (X.ev R)) (args.toList.map a.eval) R0 rec.tmps hv (by simpa using hlen) k6 k7 k8
  obtain⟨Ff,qB⟩:=(ck _ _ _).1 k9
  obtain⟨Fg,uR⟩:=(ck _ _ _).1 Fe
  refine wpIn_mono (lj w0 g w { tmps:=(ps.zip (args.toList.map a.eval)).foldl (fun tmps (t,a)=>tmps.setIfInBounds t a) rec.tmps,defers:=[] } m Ff false rec.assign (some l) qB (by simp) ck sr nf).1 fun e a1 w1 hp=>?_
  obtain⟨ex,R1,g1,H1,e1,hm,iG,xY,D5,CS,-,-⟩:=hp
  obtain⟨⟨Gt,Fh⟩,jA⟩:=o4 _ _ hm
  cases Fh
  cases e<;>simp only[js,Option.some.injEq,reduceCtorEq]at e1
  have zm:=iG.φ _ _ hφ
  obtain⟨j1,CT,j2,j3,j4,j5,j6,j7,j8,j9,D6⟩:=xY.dv b _ jA l o' q' zm
  refine⟨_,run_beginRound j2 j3,?_⟩
  obtain⟨vP,wL,wM⟩:=xY.kK (y':=.loop .busy none m R0 ps bc body) (x':=.loop { CT with state:=.busy }) jA zm j1 j2 rfl rfl (fun w' le na r o q hq=>by
   rw[zm]at hq;cases hq
   exact⟨j1,_,na,rfl,j4,j5,j6,fun t ht=>(j7 t ht).mono le,j8,j9,D6⟩)
  refine wpIn_mono (fI _ _ hm w0 g1 _ a1 m Fg false rec.body (some l) uR (by simp) (ck.mono iG) wL ⟨D5.1,fun t ht=>(D5.2 t ht).mono vP⟩).1 fun e2 a2 w3 Fi=>?_
  obtain⟨B1,R2,g2,H2,e3,tZ,mP,nF,Gu,pL,-,-⟩:=Fi
  have xC:=lx _ _ tZ
  have n7:=mP.φ _ _ zm
  obtain⟨i1,CU,i2,i3,i4,i5,i6,i7,i8,i9,i10⟩:=nF.dv b _ xC l o' q' n7
  have fin:∀(jump:Option Code) (st:p5) (pe:Option Ex) (v:Bool),lz pe=jump→st.real=(if jump.isNone then .ready else .done)→v=jump.isNone →
    ((v=true∧B1=.normal∧st=.ready∧pe=none)∨(v=false∧B1≠.normal∧st=.done∧pe=some B1)) →
    ∃v' w',(Instr.endRound l jump).run P w3=.ok v' w'∧K (a.put o.dst v') w':=by
   intro jump st pe v q1 q2 q3 q4
   obtain⟨l8,oh,pM⟩:=nF.kK (y':=.loop st pe m R0 ps bc body) (x':=.loop { CU with state:=if jump.isNone then .ready else .done,pending:=jump }) xC n7 i1 i2 rfl rfl (fun w' le na r o q hq=>by
    rw[n7]at hq;cases hq
    exact⟨i1,_,na,q2.symm,q1.symm,i5,i6,fun t ht=>(i7 t ht).mono le,i8,i9,i10⟩)
   refine⟨_,_,run_endRound jump i2,?_⟩
   refine hk _ _ g2 (H2.set b (.loop st pe m R0 ps bc body)) (.bool v) ?_ (((iG.trans vP).trans mP).trans l8) oh (by rw[←q3];exact .bool v) (((CS.trans wM).trans pL).trans pM)
   rcases q4 with⟨rfl,rfl,rfl,rfl⟩|⟨rfl,aF,rfl,rfl⟩
   ·exact .inl ⟨R2,H2,tZ,rfl,rfl⟩
   ·exact .inr ⟨B1,R2,H2,tZ,aF,rfl,rfl⟩
  cases e2<;>simp only[js,Option.some.injEq,reduceCtorEq]at e3<;>subst e3
  case normal=>exact fin none .ready none true rfl rfl rfl (.inl ⟨rfl,rfl,rfl,rfl⟩)
  case exit id=>exact fin (some (.exit id)) .done (some (.exit id)) false rfl rfl rfl (.inr ⟨rfl,by simp,rfl,rfl⟩)
  case ret=>exact fin (some .ret) .done (some .ret) false rfl rfl rfl (.inr ⟨rfl,by simp,rfl,rfl⟩)
end
theorem kP {P:Program}{w0:World}{F:Func}{n:Nat}{t0:T}{res:List Rs}:∀(ts:List T) (df:List Deferred) (bs:List Nat) (g:Ctx) (H:aa) (w:World) (R:ah) (a:Act) (Rr:Ending→World→Prop),
  l0 g ts df→ie ts=some bs→bs.Nodup→(∀b∈bs,H[b]?=some .lr)→SR w0 g H w→dg g w n R a →
  (∀w' v,Le g w g w'→SR w0 g (kill H bs) w'→dg g w' n R a→Fr g H g (kill H bs)→(results F a.tmps).run P w'=.ok v w'→VR g w' t0 v→Rr (.returned v) w') →
  fL R (kill H bs) res=some t0→(∀(g:Ctx) (w:World) (H:aa),SR w0 g H w→dg g w n R a→fL R H res=some t0→∃v,(results F a.tmps).run P w=.ok v w∧VR g w t0 v) →
  LeavesInM (Fw none) 0 P F a.tmps Rr df .returning w:=by
 intro ts
 induction ts with
 | nil =>
  intro df bs g H w R a Rr hm hb _ _ sr hr hk g9 aK
  cases hm
  simp only[ie,Option.some.injEq]at hb;subst hb
  obtain⟨v,h1,h2⟩:=aK g w H sr hr g9
  exact⟨v,h1,hk w v (.refl _ _) sr hr (.refl _ _) h1 h2⟩
 | cons t ts ih =>
  intro df bs g H w R a Rr hm hb jH vQ sr hr hk g9 aK
  cases hm with
  | @cons b r o q _ df hφ Ab =>
   simp only[ie,qc]at hb
   split at hb
   ·rename_i b' Fj e1 e2
    cases e1
    cases hb
    have D7:=vQ b (by simp)
    obtain⟨k1,k2⟩:=sr.dv b _ D7 r o q hφ
    obtain⟨le,di,gR⟩:=sr.kK (y':=.dead) (x':=.deferred none) D7 hφ k1 k2 rfl rfl (fun _ _ _=>trivial)
    refine⟨by simp,.inl ⟨r,_,rfl,run_takeDeferred k2,?_⟩⟩
    simp only[List.nodup_cons]at jH
    refine ih df Fj g (H.set b .dead) _ R a Rr Ab e2 jH.2 (fun c hc=>?_) di ⟨hr.1,fun t ht=>(hr.2 t ht).mono le⟩ (fun w' v vP wL Fk wM=>hk w' v (le.trans vP) wL Fk (gR.trans wM)) g9 aK
    exact bB (vQ c (by simp[hc])) (by rintro rfl;exact jH.1 hc)
   ·cases hb
section
variable {P:Program} {w0 w ws:World} {g g0:Ctx} {H H0 H':aa} {R:ah} {a:Act} {n:Nat} {ops:Array Oper} {r:Option Nat} {mu:Bool} {i:Nat} {o:Oper} {st jh:List Rd}
theorem l9 {d:Option Nat}{nn bytes t b len:Nat}{yy:X}{cs:List T}{gd:Gd}{v:T}(ho:ops[i]?=some o)(hc:bV P n ops mu o st=some ⟨d,.b (.app nn bytes false (.r t) yy),gd,jh⟩)(hn:a.tmps.size=n)(hr:cB g w R a (tmpsOf o (.b (.app nn bytes false (.r t) yy)) gd))(hw:aq R gd=true)
  (h:SR w0 g H w) (ht:R t=.aO b 0 len nn) (hb:H[b]?=some (.cells cs)) (hlen:len*nn=cs.length) (h0:0<len)
  (he:ae (gg R t (.sl (.own H.length len) (dM cs 0 len nn))) (H.set b (.fz cs)++[.tok len]) (.app nn bytes false (.r t) yy)=some (v,H')) :
  ∃u w' g',(∀(K:Act→World→Prop) (Q:Exit→Act→World→Prop),K (a.put d u) w'→wpOpIn (Fw r) 0 P ops Q i K a w)∧Le g w g' w'∧SR w0 g' H' w'∧VR g' w' v u∧Fr g H g' H':=by
 have hm:=hr t (by simp[tmpsOf,lP,oc,bj])
 rw[ht]at hm
 obtain⟨g4,l8,oh,pM,rq⟩:=h.vB hb hm hlen h0
 have fb:cB g4 w (gg R t (.sl (.own H.length len) (dM cs 0 len nn))) a (tmpsOf o (.b (.app nn bytes false (.r t) yy)) gd):=fun u hu=>by
  by_cases e:u=t
  ·subst e
   simp only[gg,if_pos rfl]
   exact rq _ hm
  ·simp only[gg,if_neg e]
   exact(hr u hu).mono l8
 have na:aq (gg R t (.sl (.own H.length len) (dM cs 0 len nn))) gd=true:=by
  cases gd with
  | none=>rfl
  | some p =>
   obtain⟨u,c⟩:=p
   by_cases e:u=t
   ·subst e
    simp[aq,ht]at hw
   ·simpa only[aq,gg,if_neg e]using hw
 obtain⟨u,w',g',k1,le,sr,hv,fr⟩:=kO (r:=r) ho hc hn fb na oh he
 exact⟨u,w',g',k1,l8.trans le,sr,hv,pM.trans fr⟩
end
def ma (tmps:Array Value):ResultVar→Sem Value
 | .tmp t=>pure (tmps.getD t undef)
 | .cell a t=>do loadVar t (←asAddr (tmps.getD a undef))
theorem eJ {P:Program}{w0:World}{g:Ctx}{w:World}{H:aa}{R:ah}{a:Act}{n:Nat}(sr:SR w0 g H w):∀(l:List ResultVar) (res:List Rs) (ts:List T),fX P l=some res→jk R H res=some ts→(∀t∈res,py n t=true)→dg g w n R a →
  ∃vs:List Value,(l.mapM (ma a.tmps)).run P w=.ok vs w∧ax g w ts vs
 | [],res,ts,h,ht,_,_=>by simp[fX]at h;subst h;simp[jk]at ht;subst ht;exact⟨[],by simp,ax.nil⟩
 | .tmp t :: l,res,ts,h,ht,hn,hr=>by
  simp only[fX,Option.map_eq_some_iff]at h
  obtain⟨yl,h1,rfl⟩:=h
  simp only[jk,mU]at ht
  split at ht
  ·rename_i v vs hv gi
   cases ht;cases hv
   obtain⟨us,h2,h3⟩:=eJ (P:=P) sr l yl vs h1 gi (fun t ht=>hn t (by simp[ht])) hr
   exact⟨a.tmps.getD t undef :: us,by rw[List.mapM_cons];simp only[Sem.run_bind,ma,Sem.run_pure,Result.andThen_ok,h2],ax.cons (hr.2 t (by simpa[py]using hn (.t t) (by simp))) h3⟩
  ·cases ht
 | .cell c t :: l,res,ts,h,ht,hn,hr=>by
  simp only[fX]at h
  split at h
  ·rename_i d i hu hi
   simp only[Option.map_eq_some_iff]at h
   obtain⟨yl,h1,rfl⟩:=h
   simp only[jk]at ht
   split at ht
   ·rename_i v vs hv gi
    cases ht
    obtain⟨us,h2,h3⟩:=eJ (P:=P) sr l yl vs h1 gi (fun t ht=>hn t (by simp[ht])) hr
    simp only[mU]at hv
    split at hv
    ·rename_i cs lg
     have hc:=hr.2 c (by simpa[py]using hn (.cl c (if bz d=true then i.size else 1) (bz d)) (by simp))
     obtain⟨u,w',g',aK,hw,bQ,hg⟩:=uk (P:=P) hu hi rfl (fun e=>by rw[if_pos e]) sr hc lg hv
     subst hw;subst hg
     obtain⟨r,o,Gv,hp,_⟩:=fp sr hc lg
     have Ac:(ma a.tmps (.cell c t)).run P w'=.ok u w':=by
      rw[←aK,hp]
      have e:ma a.tmps (.cell c t)=(asAddr (a.tmps.getD c undef) >>= fun x=>loadVar t x):=rfl
      rw[e,hp]
      simp only[asAddr,Instr.loadAt,Instr.sureAddr,Sem.run_bind,Sem.run_pure,Result.andThen_ok]
     exact⟨u :: us,by rw[List.mapM_cons];simp only[Sem.run_bind,Ac,Result.andThen_ok,h2,Sem.run_pure],ax.cons bQ h3⟩
    ·cases hv
   ·cases ht
  ·cases h
theorem iU {P:Program}{fn:Func}{w0:World}{g:Ctx}{w:World}{H:aa}{R:ah}{a:Act}{n:Nat}{res:List Rs}{t:T}(sr:SR w0 g H w)(h:fX P fn.results.toList=some res)(hn:∀t∈res,py n t=true)(hr:dg g w n R a)(ht:fL R H res=some t):∃v,(results fn a.tmps).run P w=.ok v w∧VR g w t v:=by
 simp only[fL,Option.map_eq_some_iff]at ht
 obtain⟨ts,ht,rfl⟩:=ht
 obtain⟨vs,h1,h2⟩:=eJ (P:=P) sr fn.results.toList res ts h ht hn hr
 have hl:ts.length=vs.length:=h2.1
 have e:results fn a.tmps=(fn.results.mapM (ma a.tmps) >>= fun vs=>pure (if h:vs.size=1 then vs[0]else .tuple vs)):=rfl
 refine⟨if h:vs.toArray.size=1 then vs.toArray[0]else .tuple vs.toArray,?_,?_⟩
 ·rw[e,Array.mapM_eq_mapM_toList]
  simp only[Sem.run_bind,Sem.run_map,map_eq_pure_bind,h1,Result.andThen_ok,Sem.run_pure]
 ·match ts,vs,hl,h2 with
  | [],[],_,_=>exact .bl rfl (by simp)
  | [t],[v],_,h2=>simpa[o3]using h2.head
  | t :: t' :: ts,v :: v' :: vs,_,h2 =>
   have:¬(v :: v' :: vs).toArray.size=1:=by simp
   rw[dif_neg this]
   simpa[o3]using h2.bl
theorem bW {P:Program}{n:Nat}{ops:Array Oper}{mu:Bool}{o:Oper}{st:List Rd}{y:O}(h:bV P n ops mu o st=some y):y.d≠some n:=by
 obtain⟨_,_,_,_,e,_,h5⟩:=ak h
 subst e
 exact fun e=>Nat.lt_irrefl n (h5 n e)
theorem mQ {P:Program}{n:Nat}{ops:Array Oper}{mu:Nat→Bool}{w0 w ws w':World}{df:List Deferred}{mk:T}{g g0 g':Ctx}{H H0 H':aa}{pre CV:List It}{L L':Array Bool}{R R':ah}{a a':Act}
  (h:Dr P n ops mu w0 df mk g0 ws H0 pre L g R H a w) (h':Dr P n ops mu w0 df mk g0 ws H0 CV L' g' R' H' a' w') (ck:b7 P g):b7 P g':=fun n c k=>by rw[h'.le.ck,←h.le.ck];exact ck n c k
theorem iV {P:Program}{an:An}{f:FuncId}{fn:Fn}(jV:au P an f=some fn):∃F code res body,P.funcs[f]?=some F∧F.body=some code∧fX P F.results.toList=some res∧av P F.ntmps an true code=some body ∧
  bn P f=true∧F.params.size+F.nfree≤F.ntmps∧(∀t∈res,py F.ntmps t=true)∧fn=⟨F.ntmps,F.params.size+F.nfree,res,body⟩:=by
 unfold au at jV
 cases hF:P.funcs[f]? with
 | none=>simp[hF]at jV
 | some F =>
  simp only[hF]at jV
  split at jV
  ·rename_i code res hb g9
   split at jV
   ·rename_i c kH
    split at jV
    ·rename_i hk
     simp only[Bool.and_eq_true,decide_eq_true_eq,List.all_eq_true]at hk
     obtain⟨⟨dy,cX⟩,aA⟩:=hk
     cases jV
     exact⟨F,code,res,c,rfl,hb,g9,kH,dy,cX,aA,rfl⟩
    ·cases jV
   ·cases jV
  ·cases jV
theorem iW {F:Func}{g:Ctx}{w:World}{as:List T}{args:List Value}(hv:ax g w as args){k:Nat}(hn:as.length=k)(cX:k≤F.ntmps) :
  dg g w F.ntmps (dm as) { tmps:=args.toArray++Array.replicate (F.ntmps-args.toArray.size) undef,defers:=[] }:=by
 have zn:args.length=as.length:=hv.1.symm
 refine⟨by simp[zn,hn];omega,fun t ht=>?_⟩
 by_cases ru:t<as.length
 ·simp only[dm]
  rw[List.getD_eq_getElem?_getD,List.getElem?_eq_getElem ru,Option.getD_some]
  rw[Array.getD_eq_getD_getElem?,Array.getElem?_append_left (by simpa[zn]using ru)]
  simp only[List.getElem?_toArray,List.getElem?_eq_getElem (zn▸ru:t<args.length),Option.getD_some]
  exact hv.2 t _ _ (List.getElem?_eq_getElem ru) (List.getElem?_eq_getElem _)
 ·simp only[dm]
  rw[List.getD_eq_getElem?_getD,List.getElem?_eq_none (by omega),Option.getD_none]
  rw[Array.getD_eq_getD_getElem?,Array.getElem?_append_right (by simp[zn];omega),Array.getElem?_replicate]
  split<;>exact da
theorem eI.Ad {w0 w:World}{n:Nat}{hr fb:Bool}{df:List Deferred}{mk:T}{g:Ctx}{H:aa}{Q:Out→aa→Prop}(hh:hr=false→fb=false){e:Exit}{a:Act}{u:World}(h:eI w0 n fb df mk g w H Q e a u):eI w0 n hr df mk g w H Q e a u :=
 h.trans (.refl _ _) (.refl _ _) id fun e=>⟨hh e,rfl,rfl⟩
theorem W.Fl {P:Program}{E:Env}(hE:lZ P E){j:J}{H:aa}{Q:Out→aa→Prop}(h:W E j H Q):CO P j H Q:=by
 induction h with
 | @skip R H Q h =>
  intro w0 g w a n an top code r hc ht ck sr hr
  obtain rfl:=rh hc
  exact⟨wpIn_skip ⟨.normal,R,g,H,rfl,h,.refl _ _,sr,hr,.refl _ _,id,fun _=>⟨rfl,rfl⟩⟩,by rintro _⟨⟩⟩
 | @exit id R H Q h =>
  intro w0 g w a n an top code r hc ht ck sr hr
  obtain rfl:=rl hc
  exact⟨wpIn_exit ⟨.exit id,R,g,H,rfl,h,.refl _ _,sr,hr,.refl _ _,fun m=>m,fun _=>⟨rfl,rfl⟩⟩,by rintro _⟨⟩⟩
 | @ret R H Q h =>
  intro w0 g w a n an top code r hc ht ck sr hr
  obtain rfl:=vJ hc
  exact⟨wpIn_ret ⟨.ret,R,g,H,rfl,h,.refl _ _,sr,hr,.refl _ _,id,fun _=>⟨rfl,rfl⟩⟩,by rintro _⟨⟩⟩
 | @xw l R H Q _ ih =>
  intro w0 g w a n an top code r hc ht ck sr hr
  obtain⟨id,ops,mu,⟨rfl,h1⟩|⟨rfl,ord,dK,h1,h2⟩⟩:=vL hc
  ·exact⟨wpIn_mono (wpIn_region (ih.1 w0 g w H g w a n ops mu _ r h1 ck sr hr (.refl _ _) (.refl _ _))) fun e a w hp=>hp.D3,by rintro _⟨⟩⟩
  ·refine⟨wpIn_mono (wpIn_region_any (Q:=nE w0 n a.defers (R n) g w H Q) hE.mixed ?_) fun e a w hp=>hp.D3,by rintro _⟨⟩⟩
   obtain⟨di,le⟩:=sr.drew (w':={ w with drawn:=w.drawn+1 }) (Tr.drew w) rfl
   have hd:=Dr.init (ops:=ops) (mu:=mu) (P:=P) (mk:=R n) di hr.1 rfl (fun t ht=>(hr.2 t ht).mono le) le (.refl g H)
   refine ih.2 w0 n ops mu a.defers (R n) g w H [] _ g a _ ord dK r ops.size ck h1 h2 hd ?_
   exact Nat.le_trans (List.count_le_length) (by simp)
 | @seq x y R H Q M _ h2 h3 lj fI =>
  intro w0 g w a n an top code r hc ht ck sr hr
  obtain⟨c,d,rfl,k1,k2⟩:=vK hc
  refine⟨wpIn_seq (wpIn_mono (lj w0 g w a n an top c r k1 ht ck sr hr).1 fun e a' w' hp=>?_),by rintro _⟨⟩⟩
  have hb:(C.seq x y).ep=false→x.ep=false∧y.ep=false:=by simp[C.ep]
  obtain⟨ex,R',g',H',e1,hm,le,di,fb,fr,lh,oj⟩:=hp
  cases e<;>simp only[js,Option.some.injEq,reduceCtorEq]at e1<;>subst e1
  case normal =>
   exact wpIn_mono (fI R' H' hm w0 g' w' a' n an top d r k2 ht (ck.mono le) di fb).1 fun e a2 w2 hp=>hp.trans le fr lh fun e=>⟨(hb e).2,oj (hb e).1⟩
  case exit id=>exact⟨_,R',g',H',rfl,h3 _ _ hm (by simp),le,di,fb,fr,lh,fun e=>oj (hb e).1⟩
  case ret=>exact⟨_,R',g',H',rfl,h3 _ _ hm (by simp),le,di,fb,fr,lh,fun e=>oj (hb e).1⟩
 | @cond x c d R H Q t hx _ ih =>
  intro w0 g w a n an top code r hc ht ck sr hr
  obtain⟨o,d',e',rfl,k1,k2,k3,k4⟩:=rm hc
  refine⟨wpIn_cond (t:=t) ?_ ?_,by rintro _⟨⟩⟩
  ·have hv:VR g w (.bool t) (a.eval o):=by
    cases o with
    | tmp u=>simp only[ai,Option.some.injEq]at k1;subst k1;simp only[X.ev]at hx;rw[←hx];exact hr.2 u (k4 u rfl)
    | const v =>
     simp only[ai,Option.map_eq_some_iff]at k1
     obtain⟨u,h1,rfl⟩:=k1
     simp only[X.ev]at hx;subst hx
     exact eR h1
    | «global» _=>simp[ai]at k1
    | func f=>simp only[ai,Option.some.injEq]at k1;subst k1;simp[X.ev]at hx
   generalize a.eval o=v at hv
   cases hv;rfl
  ·cases t
   ·exact wpIn_mono (ih w0 g w a n an top e' r k3 ht ck sr hr).1 fun e a w hp=>hp.Ad (by simp[C.ep])
   ·exact wpIn_mono (ih w0 g w a n an top d' r k2 ht ck sr hr).1 fun e a w hp=>hp.Ad (by simp[C.ep];intro h _;exact h)
 | @block id x R H Q M _ h2 h3 ih =>
  intro w0 g w a n an top code r hc ht ck sr hr
  obtain⟨c,rfl,k1⟩:=pJ hc
  refine⟨wpIn_block (wpIn_mono (ih w0 g w a n an top c r k1 ht ck sr hr).1 fun e a' w' hp=>?_),by rintro _⟨⟩⟩
  obtain⟨ex,R',g',H',e1,hm,le,di,fb,fr,oj⟩:=hp
  cases e<;>simp only[js,Option.some.injEq,reduceCtorEq]at e1<;>subst e1
  case normal=>exact⟨_,R',g',H',rfl,h3 _ _ hm (by simp),le,di,fb,fr,oj⟩
  case exit E9 =>
   simp only[Exit.inBlock]
   split
   ·rename_i e;subst e;exact⟨_,R',g',H',rfl,h2 _ _ hm,le,di,fb,fr,oj⟩
   ·rename_i e;exact⟨_,R',g',H',rfl,h3 _ _ hm (fun R2 e2=>by cases e2;exact e rfl),le,di,fb,fr,oj⟩
  case ret=>exact⟨_,R',g',H',rfl,h3 _ _ hm (by simp),le,di,fb,fr,oj⟩
 | @loop x R H Q M _ h2 h3 lj fI =>
  intro w0 g w a n an top code r hc ht ck sr hr
  obtain⟨c,rfl,k1⟩:=rn hc
  have key:iQ (Fw r) 0 P c (eI w0 n x.loop.ep a.defers (R n) g w H Q) a w:=by
   refine l3 (wpIn_mono (lj w0 g w a n an top c r k1 ht ck sr hr).1 fun e a' w' hp=>?_)
   obtain⟨ex,R',g',H',e1,hm,le,di,fb,fr,lh,oj⟩:=hp
   cases e<;>simp only[js,Option.some.injEq,reduceCtorEq]at e1<;>subst e1
   case normal =>
    have:=(fI R' H' hm w0 g' w' a' n an top (.loop c) r hc ht (ck.mono le) di fb).2 c rfl
    intro b k cs h1 h2 h4
    obtain⟨e,a2,w2,hq,fU⟩:=this b k cs h1 h2 h4
    exact⟨e,a2,w2,hq.trans le fr lh fun e=>⟨e,oj e⟩,fU⟩
   case exit id=>exact⟨_,R',g',H',rfl,h3 _ _ hm (by simp),le,di,fb,fr,lh,oj⟩
   case ret=>exact⟨_,R',g',H',rfl,h3 _ _ hm (by simp),le,di,fb,fr,lh,oj⟩
  exact⟨pH key,fun body e=>by cases e;exact key⟩
 | @bd m x ps bc body R H Q f cs M hx _ h2 ih =>
  intro w0 g w a n an top code r hc ht ck sr hr
  obtain⟨CW,qs,c,d,rfl,k1,k2,k3,k4,k5,rfl,k7,rfl⟩:=pK hc
  obtain rfl:=ht k4
  refine⟨wpIn_rangeFunc fun fn _=>?_,by rintro _⟨⟩⟩
  have hv:VR g w (.fn f cs) (a.eval CW):=by
   cases CW with
   | tmp u=>simp only[ai,Option.some.injEq]at k1;subst k1;simp only[X.ev]at hx;rw[←hx];exact hr.2 u (k5 u (by simp[bj]))
   | const v =>
    simp only[ai,Option.map_eq_some_iff]at k1
    obtain⟨u,h1,rfl⟩:=k1
    simp only[X.ev]at hx;subst hx
    exact eR h1
   | «global» _=>simp[ai]at k1
   | func f'=>simp only[ai,Option.some.injEq]at k1;subst k1;simp only[X.ev]at hx;cases hx;exact .fn rfl (by simp)
  generalize Fm:a.eval CW=vf at hv
  cases hv with
  | @fn _ _ vs hl lg =>
   obtain⟨g1,iG,xY,CS,zm⟩:=sr.qR (x:=.deferred (some [])) (y:=.lr) rfl (fun g' w' _ q1 q2 q3 r o q hq=>by rw[q2]at hq;cases hq;exact⟨q1,q3⟩)
   have cX:(w.alloc (.deferred (some []))).heap.size=w.heap.size+1:=by simp
   obtain⟨g2,vP,wL,wM,n7⟩:=xY.qR (x:=.loop { state:=.ready,pending:=none,fn,tmps:=a.tmps,params:=qs,assign:=c,body:=d,defers:=w.heap.size }) (y:=.loop .ready none m R qs.toList bc body) rfl
    (fun g' w' le q1 q2 q3 r o q hq=>by
     rw[q2]at hq;cases hq
     refine⟨q1,_,q3,rfl,rfl,rfl,hr.1,fun t ht=>((hr.2 t ht).mono iG).mono le,k7,?_,?_⟩
     ·rw[le.ck,iG.ck];exact(ck _ _ _).2 ⟨an,k2⟩
     ·rw[le.ck,iG.ck];exact(ck _ _ _).2 ⟨an,k3⟩)
   rw[cX]at n7
   have hlen:(H++[B.lr]).length=H.length+1:=by simp
   rw[hlen]at n7
   have CX:H++[B.lr]++[B.loop .ready none m R qs.toList bc body]=H++[.lr,.loop .ready none m R qs.toList bc body]:=by simp
   rw[CX]at wL wM
   have ym:=iG.trans vP
   have om:ax g2 ((w.alloc (.deferred (some []))).alloc (.loop { state:=.ready,pending:=none,fn,tmps:=a.tmps,params:=qs,assign:=c,body:=d,defers:=w.heap.size })) (.gL (H.length+1) :: cs) (.func (.yield (w.heap.size+1)) #[] #[] :: vs.toList) :=
    ax.cons (.gL n7) ⟨by simp[hl],fun i t v ha hb=>(lg i t v ha (by simpa using hb)).mono ym⟩
   obtain⟨dy,rv⟩:=ih w0 g2 _ _ (ck.mono ym) wL om
   refine⟨w.heap.size+1,[{ target:=.collected w.heap.size,args:=#[] }],((w.alloc (.deferred (some []))).alloc (.loop { state:=.ready,pending:=none,fn,tmps:=a.tmps,params:=qs,assign:=c,body:=d,defers:=w.heap.size })),{ target:=.fn (.func f) vs,args:=#[.func (.yield (w.heap.size+1)) #[] #[]] },((w.alloc (.deferred (some []))).alloc (.loop { state:=.ready,pending:=none,fn,tmps:=a.tmps,params:=qs,assign:=c,body:=d,defers:=w.heap.size })),f,#[.func (.yield (w.heap.size+1)) #[] #[]]++vs,((w.alloc (.deferred (some []))).alloc (.loop { state:=.ready,pending:=none,fn,tmps:=a.tmps,params:=qs,assign:=c,body:=d,defers:=w.heap.size })),run_enterLoop_outer _ _ _ _ _,?_,fun _ _=>trivial,?_,fun h=>by simp[Fw]at h,?_⟩
   ·simp only[resolve,Fm,Deferred.ofValue]
    simp[Act.eval]
   ·exact dY dy
   ·have e3:(.func (.yield (w.heap.size+1)) #[] #[] :: vs.toList:List Value).toArray=#[.func (.yield (w.heap.size+1)) #[] #[]]++vs:=by simp
    rw[e3]at rv
    refine rv.mono fun e w3 ⟨v,t,g3,H3,he,hM,mP,nF,_,pL⟩=>?_
    subst he
    obtain⟨st,br,hU,Fo,D8,hQ⟩:=h2 _ _ hM
    have D9:=mP.φ _ _ n7
    obtain⟨j1,rec,j2,j3,j4,j5,j6,j7,j8,j9,D6⟩:=nF.dv _ _ D8 _ _ _ D9
    obtain⟨l8,oh,pM⟩:=nF.kK (y':=.dead) (x':=.loop { rec with state:=.exhausted }) D8 D9 j1 j2 rfl rfl (fun _ _ _=>trivial)
    refine⟨_,_,run_endLoop j2 (by rw[j3];cases st<;>simp[p5.real]at hU ⊢),?_⟩
    generalize w3.putObj (w.heap.size+1) (.loop { rec with state:=.exhausted })=W4 at l8 oh ⊢
    rw[j4]
    have CY:=(ym.trans mP).trans l8
    have Fp:Fr g H g3 (H3.set (H.length+1) .dead):=by
     have:=(CS.trans wM).trans (pL.trans pM)
     exact this
    have post:∀e,js e=some (kx br)→eI w0 m (C.bd m x qs.toList bc body).ep a.defers (R m) g w H Q e { a with defers:=[{ target:=.collected w.heap.size,args:=#[] }]++a.defers } W4:=by
     intro e he
     refine⟨_,_,g3,_,he,hQ,CY,oh,⟨hr.1,fun t ht=>?_⟩,Fp,fun hm=>?_,fun h=>by simp[C.ep]at h⟩
     ·simp only[gg];rw[if_neg (Nat.ne_of_lt ht)];exact(hr.2 t ht).mono CY
     ·obtain⟨ts,e1,e2⟩:=hm
      refine⟨.ptr H.length 0 :: ts,by simp[gg,e1,fK],.cons (((vP.trans mP).trans l8).φ _ _ zm) (e2.mono CY)⟩
    cases hp:br with
    | none=>simp only[lz];exact post .normal (by rw[hp];rfl)
    | some e =>
     rcases rp (e:=e) (by rintro rfl;exact Fo hp)with⟨id,rfl,e5⟩|⟨rfl,e5⟩
     ·simp only[e5];exact wpIn_exit (post (.exit id) (by rw[hp];rfl))
     ·simp only[e5];exact wpIn_ret (post .ret (by rw[hp];rfl))
 | @nil R H Q h =>
  refine⟨fun w0 g0 ws H0 g w a n ops mu is r hc ck sr hr le fr=>?_,fun w0 n ops mu df mk g0 ws H0 pre L g a w ord dK r fuel ck h1 h2 hd hl=>?_⟩
  ·obtain rfl:=l5 hc
   exact⟨.normal,R,g,H,rfl,h,le,sr,hr,fr,rfl,rfl⟩
  ·have dR:=aW ord pre dK h1
   cases dK with
   | cons _ _=>simp at h2
   | nil=>exact pI (by simpa using dR) h fuel L g a w hl hd
 | @no o l R H Q hg _ ih =>
  refine⟨fun w0 g0 ws H0 g w a n ops mu is r hc ck sr hr le fr=>?_,fun w0 n ops mu df mk g0 ws H0 pre L g a w ord dK r fuel ck h1 h2 hd hl=>?_⟩
  ·obtain⟨i,ji,oper,rfl,ho,bJ,bP⟩:=ba hc
   rw[wpOpsIn_cons]
   refine og ho bJ hr.1 (hr.rg (fZ bJ)) hg ?_
   have:=ih.1 w0 g0 ws H0 g w (a.put o.d undef) n ops mu ji r bP ck sr (hr.put (by obtain⟨_,_,_,_,e,_,h5⟩:=ak bJ;rw[e];exact h5) (.refl _ _) da) le fr
   rwa[db,aN (bW bJ)]at this
  ·obtain⟨x,l',bR,oper,rfl,rfl,h3,hh,h4⟩:=cC h1 h2
   cases he:x.early with
   | true=>exact ih.2 w0 n ops mu df mk g0 ws H0 _ L g a w bR l' r fuel ck h4 h3 (hd.vM hh he hg) hl
   | false =>
    refine bC (Tl:=fun R' H'=>R'=aw R x.o.d ar∧H'=H) hh he (aW ord pre _ h1) (a9 bR _ l' h4) ?_ ?_ fuel L g a w hl hd
    ·rintro R' H'⟨rfl,rfl⟩ fuel L' g' a' w' hL fA
     exact ih.2 w0 n ops mu df mk g0 ws H0 _ L' g' a' w' bR l' r fuel (mQ hd fA ck) h4 h3 fA hL
    ·intro L g a w hd hp K hK
     exact og hh.ho hh.co hd.kM (hd.bD hh hp) hg (hK _ _ g _ w ⟨rfl,rfl⟩ (hd.both hh he hp (.refl _ _) hd.sr da (.refl _ _) fun _ _ _ _ _ _ _ _ _ e=>e))
 | @op d b gd s l R H Q v H' hg hv hs _ ih =>
  refine⟨fun w0 g0 ws H0 g w a n ops mu is r hc ck sr hr le fr=>?_,fun w0 n ops mu df mk g0 ws H0 pre L g a w ord dK r fuel ck h1 h2 hd hl=>?_⟩
  ·obtain⟨i,ji,oper,rfl,ho,bJ,bP⟩:=ba hc
   rw[wpOpsIn_cons]
   obtain⟨u,w',g',bG,et,di,bQ,gR⟩:=kO (r:=r) ho bJ hr.1 (hr.rg (fZ bJ)) hg sr hv
   refine bG _ _ ?_
   have:=ih.1 w0 g0 ws H0 g' w' (a.put d u) n ops mu ji r bP (ck.mono et) di (hr.put (by obtain⟨_,_,_,_,e,_,h5⟩:=ak bJ;cases e;exact h5) et bQ) (le.trans et) (fr.trans gR)
   rwa[db,aN (bW bJ)]at this
  ·obtain⟨x,l',bR,oper,rfl,eY,h3,hh,h4⟩:=cC h1 h2
   have oo:x.o.d=d:=by rw[eY]
   cases he:x.early with
   | true =>
    have:=hd.vN hh he (b:=b) (by rw[eY]) (by rw[eY];exact hg) hv
    rw[oo]at this
    exact ih.2 w0 n ops mu df mk g0 ws H0 _ L g a w bR l' r fuel ck h4 h3 this hl
   | false =>
    refine bC (Tl:=fun R' H2=>R'=aw R d v∧H2=H') hh he (aW ord pre _ h1) (a9 bR _ l' h4) ?_ ?_ fuel L g a w hl hd
    ·rintro R' H'⟨rfl,rfl⟩ fuel L' g' a' w' hL fA
     exact ih.2 w0 n ops mu df mk g0 ws H0 _ L' g' a' w' bR l' r fuel (mQ hd fA ck) h4 h3 fA hL
    ·intro L2 g2 a2 w2 dh hp K hK
     have vR:b7 P g2:=mQ hd dh ck
     have bJ:=hh.co
     have iT:=dh.bD hh hp
     have hU:=dh.stays hh he hp (H':=H') (by rw[eY];exact hs)
     rw[eY]at bJ iT
     obtain⟨u,w',g',bG,et,di,bQ,gR⟩:=kO (r:=r) hh.ho bJ dh.kM iT hg dh.sr hv
     refine bG _ _ (hK _ _ g' _ w' ⟨rfl,rfl⟩ ?_)
     have:=dh.both hh he hp et di bQ gR hU
     rwa[oo]at this
 | @za d nn bytes yy gd s l R H Q b len cs v H' t hg ht hb hlen h0 hv hs _ ih =>
  refine⟨fun w0 g0 ws H0 g w a n ops mu is r hc ck sr hr le fr=>?_,fun w0 n ops mu df mk g0 ws H0 pre L g a w ord dK r fuel ck h1 h2 hd hl=>?_⟩
  ·obtain⟨i,ji,oper,rfl,ho,bJ,bP⟩:=ba hc
   rw[wpOpsIn_cons]
   obtain⟨u,w',g',bG,et,di,bQ,gR⟩:=l9 (r:=r) ho bJ hr.1 (hr.rg (fZ bJ)) hg sr ht hb hlen h0 hv
   refine bG _ _ ?_
   have:=ih.1 w0 g0 ws H0 g' w' (a.put d u) n ops mu ji r bP (ck.mono et) di (hr.put (by obtain⟨_,_,_,_,e,_,h5⟩:=ak bJ;cases e;exact h5) et bQ) (le.trans et) (fr.trans gR)
   rwa[db,aN (bW bJ)]at this
  ·obtain⟨x,l',bR,oper,rfl,eY,h3,hh,h4⟩:=cC h1 h2
   have oo:x.o.d=d:=by rw[eY]
   cases he:x.early with
   | true =>
    have:=(hh.kl he).1
    rw[eY]at this
    exact absurd (by cases d<;>rfl) this
   | false =>
    refine bC (Tl:=fun R' H2=>R'=aw R d v∧H2=H') hh he (aW ord pre _ h1) (a9 bR _ l' h4) ?_ ?_ fuel L g a w hl hd
    ·rintro R' H'⟨rfl,rfl⟩ fuel L' g' a' w' hL fA
     exact ih.2 w0 n ops mu df mk g0 ws H0 _ L' g' a' w' bR l' r fuel (mQ hd fA ck) h4 h3 fA hL
    ·intro L2 g2 a2 w2 dh hp K hK
     have vR:b7 P g2:=mQ hd dh ck
     have bJ:=hh.co
     have iT:=dh.bD hh hp
     have hU:=dh.stays hh he hp (H':=H') (by rw[eY];exact hs)
     rw[eY]at bJ iT
     obtain⟨u,w',g',bG,et,di,bQ,gR⟩:=l9 (r:=r) hh.ho bJ dh.kM iT hg dh.sr ht hb hlen h0 hv
     refine bG _ _ (hK _ _ g' _ w' ⟨rfl,rfl⟩ ?_)
     have:=dh.both hh he hp et di bQ gR hU
     rwa[oo]at this
 | @call d f as gd s l R H Q M hg _ hs h2 lj fI =>
  refine⟨fun w0 g0 ws H0 g w a n ops mu is r hc ck sr hr le fr=>?_,fun w0 n ops mu df mk g0 ws H0 pre L g a w ord dK r fuel ck h1 h2 hd hl=>?_⟩
  ·obtain⟨i,ji,oper,rfl,ho,bJ,bP⟩:=ba hc
   rw[wpOpsIn_cons]
   refine jS (r:=r) ho bJ hr.1 (hr.rg (fZ bJ)) hg (fun args hv=>lj w0 g w args ck sr hv) fun u w' g' H' t hM et di bQ gR=>?_
   have:=(fI t H' hM).1 w0 g0 ws H0 g' w' (a.put d u) n ops mu ji r bP (ck.mono et) di (hr.put (by obtain⟨_,_,_,_,e,_,h5⟩:=ak bJ;cases e;exact h5) et bQ) (le.trans et) (fr.trans gR)
   rwa[db,aN (bW bJ)]at this
  ·obtain⟨x,l',bR,oper,rfl,eY,h3,hh,h4⟩:=cC h1 h2
   have oo:x.o.d=d:=by rw[eY]
   cases he:x.early with
   | true=>exact absurd (by rw[eY];rfl) (hh.kl he).1
   | false =>
    refine bC (Tl:=fun R' H2=>∃v,M (.val v) H2∧R'=aw R d v) hh he (aW ord pre _ h1) (a9 bR _ l' h4) ?_ ?_ fuel L g a w hl hd
    ·rintro R' H'⟨v,hM,rfl⟩ fuel L' g' a' w' hL fA
     exact(fI v H' hM).2 w0 n ops mu df mk g0 ws H0 _ L' g' a' w' bR l' r fuel (mQ hd fA ck) h4 h3 fA hL
    ·intro L2 g2 a2 w2 dh hp K hK
     have vR:b7 P g2:=mQ hd dh ck
     have bJ:=hh.co
     have iT:=dh.bD hh hp
     rw[eY]at bJ iT
     refine jS (r:=r) hh.ho bJ dh.kM iT hg (fun args hv=>lj w0 g2 w2 args vR dh.sr hv) fun u w' g' H' t hM et di bQ gR=>hK _ H' g' _ w' ⟨t,hM,rfl⟩ ?_
     have hU:=dh.stays hh he hp (H':=H') (by rw[eY];exact hs t H' hM)
     have:=dh.both hh he hp et di bQ gR hU
     rwa[oo]at this
 | @aQ d xx f cs as gd s l R H Q M hg hf _ hs h2 lj fI =>
  refine⟨fun w0 g0 ws H0 g w a n ops mu is r hc ck sr hr le fr=>?_,fun w0 n ops mu df mk g0 ws H0 pre L g a w ord dK r fuel ck h1 h2 hd hl=>?_⟩
  ·obtain⟨i,ji,oper,rfl,ho,bJ,bP⟩:=ba hc
   rw[wpOpsIn_cons]
   refine iR (r:=r) ho bJ hr.1 (hr.rg (fZ bJ)) hg hf (fun args hv=>lj w0 g w args ck sr hv) fun u w' g' H' t hM et di bQ gR=>?_
   have:=(fI t H' hM).1 w0 g0 ws H0 g' w' (a.put d u) n ops mu ji r bP (ck.mono et) di (hr.put (by obtain⟨_,_,_,_,e,_,h5⟩:=ak bJ;cases e;exact h5) et bQ) (le.trans et) (fr.trans gR)
   rwa[db,aN (bW bJ)]at this
  ·obtain⟨x,l',bR,oper,rfl,eY,h3,hh,h4⟩:=cC h1 h2
   have oo:x.o.d=d:=by rw[eY]
   cases he:x.early with
   | true=>exact absurd (by rw[eY];rfl) (hh.kl he).1
   | false =>
    refine bC (Tl:=fun R' H2=>∃v,M (.val v) H2∧R'=aw R d v) hh he (aW ord pre _ h1) (a9 bR _ l' h4) ?_ ?_ fuel L g a w hl hd
    ·rintro R' H'⟨v,hM,rfl⟩ fuel L' g' a' w' hL fA
     exact(fI v H' hM).2 w0 n ops mu df mk g0 ws H0 _ L' g' a' w' bR l' r fuel (mQ hd fA ck) h4 h3 fA hL
    ·intro L2 g2 a2 w2 dh hp K hK
     have vR:b7 P g2:=mQ hd dh ck
     have bJ:=hh.co
     have iT:=dh.bD hh hp
     rw[eY]at bJ iT
     refine iR (r:=r) hh.ho bJ dh.kM iT hg hf (fun args hv=>lj w0 g2 w2 args vR dh.sr hv) fun u w' g' H' t hM et di bQ gR=>hK _ H' g' _ w' ⟨t,hM,rfl⟩ ?_
     have hU:=dh.stays hh he hp (H':=H') (by rw[eY];exact hs t H' hM)
     have:=dh.both hh he hp et di bQ gR hU
     rwa[oo]at this
 | @gL d xx b as gd s l R H Q m R0 ps bc body M1 M hg hf hb hn _ o4 _ lx y7 _ y8 _ lj fI zo zp =>
  refine⟨fun w0 g0 ws H0 g w a n ops mu is r hc ck sr hr le fr=>?_,fun w0 n ops mu df mk g0 ws H0 pre L g a w ord dK r fuel ck h1 h2 hd hl=>?_⟩
  ·obtain⟨i,ji,oper,rfl,ho,bJ,bP⟩:=ba hc
   rw[wpOpsIn_cons]
   refine l7 (r:=r) ho bJ hr.1 (hr.rg (fZ bJ)) hg hf hb hn ck sr lj o4 fI lx fun u w' g' H' t m9 et di bQ gR=>?_
   have Ae:=hr.put (d:=d) (by obtain⟨_,_,_,_,e,_,h5⟩:=ak bJ;cases e;exact h5) et bQ
   rcases m9 with⟨R',H2,hM,rfl,rfl⟩|⟨e,R',H2,hM,aF,rfl,rfl⟩
   ·have:=(zo R' H2 hM).1 w0 g0 ws H0 g' w' (a.put d u) n ops mu ji r bP (ck.mono et) di Ae (le.trans et) (fr.trans gR)
    rwa[db,aN (bW bJ)]at this
   ·have:=(zp e R' H2 hM aF).1 w0 g0 ws H0 g' w' (a.put d u) n ops mu ji r bP (ck.mono et) di Ae (le.trans et) (fr.trans gR)
    rwa[db,aN (bW bJ)]at this
  ·obtain⟨x,l',bR,oper,rfl,eY,h3,hh,h4⟩:=cC h1 h2
   have oo:x.o.d=d:=by rw[eY]
   cases he:x.early with
   | true=>exact absurd (by rw[eY];rfl) (hh.kl he).1
   | false =>
    refine bC (Tl:=fun R' H'=>(∃R2 H2,M (.ex .normal R2) H2∧R'=aw R d (.bool true)∧H'=H2.set b (.loop .ready none m R0 ps bc body))∨(∃e R2 H2,M (.ex e R2) H2∧e≠.normal∧R'=aw R d (.bool false)∧H'=H2.set b (.loop .done (some e) m R0 ps bc body)))
     hh he (aW ord pre _ h1) (a9 bR _ l' h4) ?_ ?_ fuel L g a w hl hd
    ·rintro R' H' (⟨R2,H2,hM,rfl,rfl⟩|⟨e,R2,H2,hM,aF,rfl,rfl⟩) fuel L' g' a' w' hL fA
     ·exact(zo R2 H2 hM).2 w0 n ops mu df mk g0 ws H0 _ L' g' a' w' bR l' r fuel (mQ hd fA ck) h4 h3 fA hL
     ·exact(zp e R2 H2 hM aF).2 w0 n ops mu df mk g0 ws H0 _ L' g' a' w' bR l' r fuel (mQ hd fA ck) h4 h3 fA hL
    ·intro L2 g2 a2 w2 dh hp K hK
     have vR:b7 P g2:=mQ hd dh ck
     have bJ:=hh.co
     have iT:=dh.bD hh hp
     rw[eY]at bJ iT
     refine l7 (r:=r) hh.ho bJ dh.kM iT hg hf hb hn vR dh.sr lj o4 fI lx fun u w' g' H' t m9 et di bQ gR=>?_
     have xC:∀(hs:cF R H' s),Dr P n ops mu w0 df mk g0 ws H0 (pre++[x]) (L2.setIfInBounds x.i true) g' (aw R d t) H' (a2.put d u) w':=fun hs=>by
      have hU:=dh.stays hh he hp (H':=H') (by rw[eY];exact hs)
      have:=dh.both hh he hp et di bQ gR hU
      rwa[oo]at this
     rcases m9 with⟨R',H2,hM,rfl,rfl⟩|⟨e,R',H2,hM,aF,rfl,rfl⟩
     ·exact hK _ _ g' _ w' (.inl ⟨R',H2,hM,rfl,rfl⟩) (xC (y7 R' H2 hM))
     ·exact hK _ _ g' _ w' (.inr ⟨e,R',H2,hM,aF,rfl,rfl⟩) (xC (y8 e R' H2 hM aF))
 | @mW d neg c xx yy s l R H Q hs _ hx hy hc ih =>
  subst hc
  subst hs
  refine⟨fun w0 g0 ws H0 g w a n ops mu is r hc ck sr hr le fr=>?_,fun w0 n ops mu df mk g0 ws H0 pre L g a w ord dK r fuel ck h1 h2 hd hl=>?_⟩
  ·obtain⟨i,ji,oper,rfl,ho,bJ,bP⟩:=ba hc
   rw[wpOpsIn_cons]
   obtain⟨b,bG⟩:=jR (r:=r) ho bJ hr.1 (hr.rg (fZ bJ)) rfl hx hy
   refine bG _ _ ?_
   have:=(ih b).1 w0 g0 ws H0 g w (a.put d (.bool b)) n ops mu ji r bP ck sr (hr.put (by obtain⟨_,_,_,_,e,_,h5⟩:=ak bJ;cases e;exact h5) (.refl _ _) (.bool b)) le fr
   rwa[db,aN (bW bJ)]at this
  ·obtain⟨x,l',bR,oper,rfl,eY,h3,hh,h4⟩:=cC h1 h2
   have oo:x.o.d=d:=by rw[eY]
   cases he:x.early with
   | true =>
    have:=(hh.kl he).1
    rw[eY]at this
    exact absurd (by cases d<;>rfl) this
   | false =>
    refine bC (Tl:=fun R' H2=>∃b:Bool,R'=aw R d (.bool b)∧H2=H) hh he (aW ord pre _ h1) (a9 bR _ l' h4) ?_ ?_ fuel L g a w hl hd
    ·rintro R' H'⟨b,rfl,rfl⟩ fuel L' g' a' w' hL fA
     exact(ih b).2 w0 n ops mu df mk g0 ws H0 _ L' g' a' w' bR l' r fuel (mQ hd fA ck) h4 h3 fA hL
    ·intro L2 g2 a2 w2 dh hp K hK
     have vR:b7 P g2:=mQ hd dh ck
     have bJ:=hh.co
     have iT:=dh.bD hh hp
     rw[eY]at bJ iT
     obtain⟨b,bG⟩:=jR (r:=r) hh.ho bJ dh.kM iT rfl hx hy
     refine bG _ _ (hK _ H g2 _ w2 ⟨b,rfl,rfl⟩ ?_)
     have:=dh.both hh he hp (.refl _ _) dh.sr (.bool b) (.refl _ _) fun _ _ _ _ _ _ _ _ _ e=>e
     rwa[oo]at this
 | @gW d xx gd s l R H Q b bi es ix cur hg hx hb hs _ ih =>
  refine⟨fun w0 g0 ws H0 g w a n ops mu is r hc ck sr hr le fr=>?_,fun w0 n ops mu df mk g0 ws H0 pre L g a w ord dK r fuel ck h1 h2 hd hl=>?_⟩
  ·obtain⟨i,ji,oper,rfl,ho,bJ,bP⟩:=ba hc
   rw[wpOpsIn_cons]
   obtain⟨t,H',u,w',g',hM,bG,et,di,bQ,gR⟩:=l4 (r:=r) ho bJ hr.1 (hr.rg (fZ bJ)) hg sr hx hb
   refine bG _ _ ?_
   have:=(ih t H' hM).1 w0 g0 ws H0 g' w' (a.put d u) n ops mu ji r bP (ck.mono et) di (hr.put (by obtain⟨_,_,_,_,e,_,h5⟩:=ak bJ;cases e;exact h5) et bQ) (le.trans et) (fr.trans gR)
   rwa[db,aN (bW bJ)]at this
  ·obtain⟨x,l',bR,oper,rfl,eY,h3,hh,h4⟩:=cC h1 h2
   have oo:x.o.d=d:=by rw[eY]
   cases he:x.early with
   | true =>
    have:=(hh.kl he).1
    rw[eY]at this
    exact absurd (by cases d<;>rfl) this
   | false =>
    refine bC (Tl:=fun R' H2=>∃v,fM H b bi es ix v H2∧R'=aw R d v) hh he (aW ord pre _ h1) (a9 bR _ l' h4) ?_ ?_ fuel L g a w hl hd
    ·rintro R' H'⟨v,hM,rfl⟩ fuel L' g' a' w' hL fA
     exact(ih v H' hM).2 w0 n ops mu df mk g0 ws H0 _ L' g' a' w' bR l' r fuel (mQ hd fA ck) h4 h3 fA hL
    ·intro L2 g2 a2 w2 dh hp K hK
     have vR:b7 P g2:=mQ hd dh ck
     have bJ:=hh.co
     have iT:=dh.bD hh hp
     rw[eY]at bJ iT
     obtain⟨t,H',u,w',g',hM,bG,et,di,bQ,gR⟩:=l4 (r:=r) hh.ho bJ dh.kM iT hg dh.sr hx hb
     refine bG _ _ (hK _ H' g' _ w' ⟨t,hM,rfl⟩ ?_)
     have hU:=dh.stays hh he hp (H':=H') (by rw[eY];exact hs t H' hM)
     have:=dh.both hh he hp et di bQ gR hU
     rwa[oo]at this
 | @shr f as H Q M _ h2 ih =>
  intro w0 g w args ck sr hv
  obtain⟨dy,hc⟩:=ih w0 g w args ck sr hv
  refine⟨dy,hc.mono fun e w3 ⟨v,t,g3,H3,he,hM,mP,nF,bQ,pL⟩=>?_⟩
  obtain⟨t',b,cs,k,ht,jl,hb,hq⟩:=h2 _ _ hM
  cases ht
  have hφ:∃x,g3.φ b=some x:=by
   cases bQ with
   | aO h=>simp only[ig]at jl;subst jl;exact⟨_,h⟩
   | bl hl h2 =>
    obtain⟨off,len,n,hm⟩:=jl
    obtain⟨i,hi⟩:=List.mem_iff_getElem?.1 hm
    have aA:=(List.getElem?_eq_some_iff.1 hi).1
    obtain⟨u,hu⟩:∃u,(Array.mk _)[i]?=some u:=⟨_,Array.getElem?_eq_getElem (Nat.lt_of_lt_of_eq aA hl.symm)⟩
    have:=h2 i _ _ hi hu
    cases this with
    | aO h=>exact⟨_,h⟩
   | _=>exact jl.elim
  obtain⟨oh,pM⟩:=nF.shrink k hb hφ
  exact⟨v,_,g3,_,he,hq,mP,oh,bQ,pL.trans pM⟩
 | @y9 f as H Q fn M hf hn _ h2 ih =>
  intro w0 g w args ck sr hv
  obtain⟨an,jV⟩:=hE.fn f fn hf
  obtain⟨F,code,res,body,hF,hb,g9,kH,dy,cX,aA,rfl⟩:=iV jV
  refine⟨dy,callsIn_of_wp_marks hF hb trivial ?_⟩
  have yn:=iW (F:=F) hv hn cX
  refine wpIn_mono (ih w0 g w _ F.ntmps an true code none kH (fun _=>rfl) ck sr yn).1 fun e a' w' ry=>?_
  obtain⟨ex,R',g',H',e1,hm,le,di,fb,fr,lh,_⟩:=ry
  obtain⟨R2,bs,hex,Ab,jH,vQ,v0,yo,hq⟩:=h2 _ _ hm
  have CZ:Mk g (dm as F.ntmps) []:=⟨[],by simp only[dm];rw[List.getD_eq_getElem?_getD,List.getElem?_eq_none (by simp only at hn;omega)];rfl,.nil⟩
  obtain⟨ts,pZ,Fq⟩:=lh CZ
  have rz:R2=R'→LeavesInM (Fw none) 0 P F a'.tmps (jQ w0 g w H fun v H'=>Q (.val v) H') a'.defers .returning w':=by
   rintro rfl
   simp only at Ab hq yo
   rw[pZ]at Ab
   refine kP ts a'.defers bs g' H' w' R2 a' _ Fq Ab jH vQ di fb (fun w2 v vP wL _ wM _ bQ=>⟨v,_,g',_,rfl,hq,le.trans vP,wL,bQ,fr.trans wM⟩) yo fun g w H sr hr ht=>iU (P:=P) sr g9 aA hr ht
  cases e<;>simp only[js,Option.some.injEq,reduceCtorEq]at e1<;>subst e1
  case normal=>rcases hex with hex|hex<;>cases hex;exact rz rfl
  case exit id=>rcases hex with hex|hex<;>cases hex
  case ret=>rcases hex with hex|hex<;>cases hex;exact rz rfl
 | @fn f as H Q fn M hf Fs hn _ h2 ih =>
  intro w0 g w args ck sr hv
  obtain⟨an,jV⟩:=hE.fn f fn hf
  obtain⟨F,code,res,body,hF,hb,g9,kH,dy,cX,aA,rfl⟩:=iV jV
  refine⟨dy,callsIn_of_wp hF hb trivial ?_⟩
  have yn:=iW (F:=F) hv hn cX
  refine wpIn_mono (ih w0 g w _ F.ntmps an true code none kH (fun _=>rfl) ck sr yn).1 fun e a' w' ry=>?_
  obtain⟨ex,R',g',H',e1,hm,le,di,fb,fr,_,oj⟩:=ry
  obtain⟨R2,hex,v0,yo,hq⟩:=h2 _ _ hm
  have rz:∀(R2:ah),R2=R'→fL R2 H' res=some v0→a'.defers=[]∧∃v,(results F a'.tmps).run P w'=.ok v w'∧jQ w0 g w H (fun v H'=>Q (.val v) H') (.returned v) w':=by
   rintro R2 rfl yo
   obtain⟨v,aK,bQ⟩:=iU (P:=P) di g9 aA fb yo
   exact⟨(oj Fs).2,v,aK,v,_,g',H',rfl,hq,le,di,bQ,fr⟩
  cases e<;>simp only[js,Option.some.injEq,reduceCtorEq]at e1<;>subst e1
  case normal=>rcases hex with hex|hex<;>cases hex;exact rz _ rfl yo
  case exit id=>rcases hex with hex|hex<;>cases hex
  case ret=>rcases hex with hex|hex<;>cases hex;exact rz _ rfl yo
 | @qd f as H Q b off len n i M hi _ h2 ih =>
  intro w0 g w args ck sr hv
  have aA:=(List.getElem?_eq_some_iff.1 hi).1
  have hl:=hv.1
  have wN:=hv.2 i _ _ hi (List.getElem?_eq_getElem (by omega))
  have hex:∃c,len≤c∧VR g w (.bS b off len n c) (args[i]'(by omega)):=by
   generalize args[i]'(by omega)=u at wN
   cases wN with
   | aO h hc hq=>exact⟨_,hc,.bS h hc hq⟩
  obtain⟨c,hc,n6⟩:=hex
  have px:ax g w (as.set i (.bS b off len n c)) args:=⟨by simp[hl],fun j t v ha hb=>by
   by_cases e:j=i
   ·subst e
    rw[List.getElem?_set_self aA]at ha
    cases ha
    rw[List.getElem?_eq_getElem (by omega)]at hb
    cases hb
    exact n6
   ·rw[List.getElem?_set_ne (Ne.symm e)]at ha
    exact hv.2 j t v ha hb⟩
  obtain⟨dy,kH⟩:=ih c hc w0 g w args ck sr px
  refine⟨dy,kH.mono fun e w3 ⟨v,t,g3,H3,he,hM,mP,nF,bQ,pL⟩=>?_⟩
  exact⟨v,_,g3,H3,he,h2 _ _ hM,mP,nF,bQ.y6,pL⟩
 | @nU f as H Q M _ h2 ih =>
  intro w0 g w args ck sr hv
  obtain⟨dy,hc⟩:=ih w0 g w args ck sr hv
  refine⟨dy,hc.mono fun e w3 ⟨v,t,g3,H3,he,hM,mP,nF,bQ,pL⟩=>?_⟩
  obtain⟨t',b,cs,ht,jl,hb,hq⟩:=h2 _ _ hM
  cases ht
  have hφ:∃x,g3.φ b=some x:=by
   cases bQ with
   | aO h=>simp only[ig]at jl;subst jl;exact⟨_,h⟩
   | bl hl h2 =>
    obtain⟨off,len,n,hm⟩:=jl
    obtain⟨i,hi⟩:=List.mem_iff_getElem?.1 hm
    have aA:=(List.getElem?_eq_some_iff.1 hi).1
    obtain⟨u,hu⟩:∃u,(Array.mk _)[i]?=some u:=⟨_,Array.getElem?_eq_getElem (Nat.lt_of_lt_of_eq aA hl.symm)⟩
    have:=h2 i _ _ hi hu
    cases this with
    | aO h=>exact⟨_,h⟩
   | _=>exact jl.elim
  obtain⟨g4,l8,oh,pM,rq⟩:=nF.freeze hb hφ
  exact⟨v,_,g4,_,he,hq,mP.trans l8,oh,rq _ _ bQ,pL.trans pM⟩
 | @qe f as H Q b off len n cs i hi hb _ ih =>
  intro w0 g w args ck sr hv
  have aA:=(List.getElem?_eq_some_iff.1 hi).1
  have hl:=hv.1
  have wN:=hv.2 i _ _ hi (List.getElem?_eq_getElem (by omega))
  have hφ:∃x,g.φ b=some x:=by
   generalize args[i]'(by omega)=u at wN
   cases wN with
   | aO h=>exact⟨_,h⟩
  obtain⟨g4,l8,oh,pM,rq⟩:=sr.freeze hb hφ
  have px:ax g4 w (as.map (mV b cs)) args:=⟨by simp[hl],fun j t v ha cV=>by
   rw[List.getElem?_map]at ha
   obtain⟨t0,h0,rfl⟩:=Option.map_eq_some_iff.1 ha
   exact rq _ _ (hv.2 j t0 v h0 cV)⟩
  obtain⟨dy,hc⟩:=ih w0 g4 w args (ck.mono l8) oh px
  exact⟨dy,hc.mono fun e w3 ⟨v,t,g3,H3,he,hM,mP,nF,bQ,pL⟩=>⟨v,t,g3,H3,he,hM,l8.trans mP,nF,bQ,pM.trans pL⟩⟩
 | @zz f as H Q b cs hk hb _ ih =>
  intro w0 g w args ck sr hv
  have hφ:∃x,g.φ b=some x:=by
   obtain⟨i,b',off,len,n,hi,hk⟩:=hk
   have aA:=(List.getElem?_eq_some_iff.1 hi).1
   have hl:=hv.1
   have wN:=hv.2 i _ _ hi (List.getElem?_eq_getElem (by omega))
   generalize args[i]'(by omega)=u at wN
   cases wN with
   | @aO _ _ _ _ r o q cap h0 =>
    rcases hk with rfl|⟨EZ,j,xu,xv,n',cV,hc⟩
    ·exact⟨_,h0⟩
    ·have n6:∃v,VR g w (.aO b xu xv n') v:=by
      rcases cV with cV|cV
      ·obtain⟨_,v,_,px⟩:=(sr.dv _ _ cV r o q h0).2.2 j _ hc
       exact⟨v,px⟩
      ·obtain⟨_,v,_,px⟩:=(sr.dv _ _ cV r o q h0).2 j _ hc
       exact⟨v,px⟩
     obtain⟨v,n6⟩:=n6
     cases n6 with
     | aO h=>exact⟨_,h⟩
  obtain⟨g4,l8,oh,pM⟩:=sr.vA hb hφ
  obtain⟨dy,hc⟩:=ih w0 g4 w args (ck.mono l8) oh (hv.mono l8)
  exact⟨dy,hc.mono fun e w3 ⟨v,t,g3,H3,he,hM,mP,nF,bQ,pL⟩=>⟨v,t,g3,H3,he,hM,l8.trans mP,nF,bQ,pM.trans pL⟩⟩
 | @vw f as tP H Q hl Ft _ ih =>
  intro w0 g w args ck sr hv
  exact ih w0 g w args ck sr ⟨hl.trans hv.1,fun j t v ha cV=>by
   have aA:=(List.getElem?_eq_some_iff.1 ha).1
   exact(Ft j _ t (List.getElem?_eq_getElem (by omega)) ha).ok sr v (hv.2 j _ v (List.getElem?_eq_getElem (by omega)) cV)⟩
 | @gj f as H Q h =>
  intro w0 g w args ck sr hv
  exact hE.gj f as H _ h w0 g w args sr hv
inductive Sh where
 | int (k:IntKind)|str|bool
 | sl (l:List Sh)
 | ag (l:List Sh)
def pN (P:Program)(f:TypeId→Option (List Sh)):List Field→Nat→Option (List Sh)
 | [],_=>some []
 | x :: xs,off=>match f x.type with
  | some l=>if x.offset=off∧l.length=P.cellsOf x.type then(pN P f xs (off+l.length)).map (l++·)else none
  | none=>none
def oq (k:Nat)(e:TypeId)(c:Nat):List Field:=(List.range k).map fun i=>{ (default:Field)with type:=e,offset:=i*c }
def jt (P:Program):Nat→TypeId→Option (List Sh)
 | 0,_=>none
 | n+1,t=>match P.underlying t with
  | some .bool=>some [.bool]
  | some (.int k)=>some [.int k]
  | some .string=>some [.str]
  | some (.slice e)=>match jt P n e with
   | some l=>if l.length=P.cellsOf e∧l.length≠0 then some [.sl l]else none
   | none=>none
  | some (.struct fs)=>match pN P (jt P n) fs.toList 0 with
   | some l=>if l.length=P.cellsOf t then some l else none
   | none=>none
  | some (.array k e)=>match pN P (jt P n) (oq k e (P.cellsOf e)) 0 with
   | some l=>if l.length=P.cellsOf t then some l else none
   | none=>none
  | _=>none
inductive bX (B:Nat):Sh→T→Prop
 | int {k n} (h:(Lit.int k n).wf=true):bX B (.int k) (.int k n)
 | bool (b):bX B .bool (.bool b)
 | str {s:ByteArray} (h:s.size≤maxLen) (hB:s.size≤B):bX B .str (.str s)
 | nil {l}:bX B (.sl l) (.sl .nil [])
 | sl {l es} (hl:es.length≤maxLen) (hB:es.length≤B) (h0:∀c∈es,c.length=l.length) (h:∀c∈es,∀(j:Nat) (s:Sh) (t:T),l[j]?=some s→c[j]?=some t→bX B s t):bX B (.sl l) (.sl .arg es)
 | ag {l cs} (hl:cs.length=l.length) (h:∀(j:Nat) (s:Sh) (t:T),l[j]?=some s→cs[j]?=some t→bX B s t):bX B (.ag l) (.agg cs)
mutual
def T.bk:T→Nat
 | .str s=>s.size+1
 | .sl _ es=>zq es+1
 | _=>1
def jj:List T→Nat
 | []=>0
 | t :: ts=>t.bk+jj ts
def zq:List (List T)→Nat
 | []=>0
 | c :: es=>jj c+zq es
end
theorem vS (a b:List T):jj (a++b)=jj a+jj b:=by
 induction a with
 | nil=>simp[jj]
 | cons t a ih=>simp only[List.cons_append,jj,ih];omega
mutual
def aE {H:Type}:DataW H→Nat
 | .lit (.string bytes)=>bytes.length+1
 | .lit _=>1
 | .nil=>1
 | .ptr d=>aE d+1
 | .slice elems spare=>aC elems+aC spare+1
 | .agg parts=>aC parts+1
 | .iface _ d=>aE d+1
 | .map entries=>bZ entries+1
 | .held _=>1
def aC {H:Type}:List (DataW H)→Nat
 | []=>0
 | d :: r=>aE d+aC r
def bZ {H:Type}:List (Lit×DataW H)→Nat
 | []=>0
 | x :: r=>fC x+bZ r
def fC {H:Type}:Lit×DataW H→Nat
 | (.string bytes,d)=>bytes.length+aE d+1
 | (_,d)=>aE d+1
end
theorem eK {H:Type}(d:DataW H):1≤aE d:=by
 cases d with
 | lit l=>cases l<;>simp[aE]
 | _=>simp[aE]
theorem gE {H:Type}{d:DataW H}{l:List (DataW H)}(h:d∈l):aE d≤aC l:=by
 induction l with
 | nil=>cases h
 | cons x r ih =>
  simp only[aC]
  rcases List.mem_cons.1 h with rfl|h
  ·omega
  ·have:=ih h;omega
theorem rA {H:Type}:∀(es:List (List T)) (ds:List (DataW H)),es.length≤ds.length→(∀(i:Nat) c d,es[i]?=some c→ds[i]?=some d→jj c≤aE d)→zq es≤aC ds
 | [],_,_,_=>by simp[zq]
 | c :: es,[],h,_=>by simp at h
 | c :: es,d :: ds,h,hk=>by
  have h1:=hk 0 c d rfl rfl
  have h2:=rA es ds (by simpa using h) fun i c d a b=>hk (i+1) c d (by simpa using a) (by simpa using b)
  simp only[zq,aC];omega
theorem rB {H:Type}(l:List (DataW H)):l.length≤aC l:=by
 induction l with
 | nil=>simp
 | cons x r ih=>have:=eK x;simp only[aC,List.length_cons];omega
def g0 (P:Program)(W:World):Ctx:=⟨fun _=>none,fun r _=>if r<W.heap.size then .cG else .free,fun _ _=>none,fun n c k=>∃an,av P n an false k=some c⟩
theorem Fu (P:Program)(W:World):SR W (g0 P W) [] W where
 size:=Nat.le_refl _
 eu _ _:=rfl
 o7 r o h:=by simp[g0,h]
 fresh r o h:=by simp only[g0];rw[if_neg (by omega)]
 gZ b x h:=by simp[g0]at h
 cu t e x h:=by simp[g0]at h
 dv b x h:=by simp at h
 env:=⟨rfl,rfl⟩
theorem Fv (P:Program)(W:World):b7 P (g0 P W):=fun _ _ _=>Iff.rfl
theorem ot {α:Type}{Q:Nat→α→Prop}:∀(n:Nat),(∀i,i<n→∃c,Q i c)→∃l:List α,l.length=n∧∀(i:Nat) (c:α),l[i]?=some c→Q i c
 | 0,_=>⟨[],rfl,by simp⟩
 | n+1,h=>by
  obtain⟨l,hl,hq⟩:=ot n fun i hi=>h i (by omega)
  obtain⟨c,hc⟩:=h n (by omega)
  refine⟨l++[c],by simp[hl],fun i d hd=>?_⟩
  by_cases hi:i<n
  ·rw[List.getElem?_append_left (by omega)]at hd;exact hq i d hd
  ·rw[List.getElem?_append_right (by omega)]at hd
   have:i=n:=by
    have:=(List.getElem?_eq_some_iff.1 hd).1;simp at this;omega
   subst this;simp[hl]at hd;subst hd;exact hc
section
variable {H:Type} {enc:TypeId×Value→H} {P:Program} {W:World} {held:Bool} {B:Nat}
theorem mc {a:Addr}{n:Nat}{cs:List Value}(h:W.cells? 0 a n=some cs):cs.length=n∧∀(j:Nat) (v:Value),cs[j]?=some v→W.cell? (a.add j)=some v:=by
 unfold World.cells? at h
 rw[if_pos (Nat.zero_le _)]at h
 have key:∀(n:Nat) (cs:List Value),(List.range n).mapM (fun i=>W.cell? (a.add i))=some cs→cs.length=n∧∀(j:Nat) (v:Value),cs[j]?=some v→W.cell? (a.add j)=some v:=by
  intro n
  induction n with
  | zero=>intro cs h;simp at h;subst h;simp
  | succ n ih =>
   intro cs h
   rw[List.range_succ,List.mapM_append]at h
   cases h1:(List.range n).mapM (fun i=>W.cell? (a.add i))with
   | none=>simp[h1]at h
   | some l =>
    cases h2:W.cell? (a.add n)with
    | none=>simp[h1,h2]at h
    | some v =>
     simp[h1,h2]at h
     subst h
     obtain⟨k1,k2⟩:=ih l h1
     refine⟨by simp[k1],fun j u hj=>?_⟩
     by_cases BV:j<n
     ·rw[List.getElem?_append_left (by omega)]at hj;exact k2 j u hj
     ·rw[List.getElem?_append_right (by omega)]at hj
      have:j=n:=by
       have:=(List.getElem?_eq_some_iff.1 hj).1;simp at this;omega
      subst this;simp[k1]at hj;subst hj;exact h2
 exact key n cs h
def Reads (enc:TypeId×Value→H)(P:Program)(W:World)(held:Bool)(B:Nat)(t:TypeId)(l:List Sh):Prop :=
 ∀fuel cs d ps,DataW.trod enc P W 0 (fun _=>true) held fuel t cs=some (d,ps)→aE d≤B→cs.length=l.length∧∃ts:List T,ax (g0 P W) W ts cs∧aS ts∧(∀(j:Nat) (s:Sh) (t:T),l[j]?=some s→ts[j]?=some t→bX B s t)∧jj ts≤aE d
theorem eb {f:TypeId→Option (List Sh)}{n:Nat}{cs:List Value}:∀(fs:List Field) (off:Nat) (l:List Sh) (xs:List (DataW H×List MemPlace)),pN P f fs off=some l→(∀x∈fs,∀l',f x.type=some l'→Reads enc P W held B x.type l') →
  xs.length=fs.length→(∀(i:Nat) (x:Field),fs[i]?=some x→DataW.trod enc P W 0 (fun _=>true) held n x.type ((cs.drop x.offset).take (P.cellsOf x.type))=xs[i]?)→(∀x∈xs,aE x.1≤B)→off+l.length≤cs.length →
  ∃ts:List T,ax (g0 P W) W ts ((cs.drop off).take l.length)∧aS ts∧(∀(j:Nat) (s:Sh) (t:T),l[j]?=some s→ts[j]?=some t→bX B s t)∧jj ts≤aC (xs.map (·.1))
 | [],off,l,xs,h,_,_,_,_,_=>by
  simp only[pN,Option.some.injEq]at h;subst h
  exact⟨[],by simpa using ax.nil,by simp[aS],by simp,by simp[jj]⟩
 | x :: fs,off,l,xs,h,hr,hl,ht,hb,hle=>by
  simp only[pN]at h
  split at h
  ·rename_i l1 h1
   split at h
   ·rename_i hc
    simp only[Option.map_eq_some_iff]at h
    obtain⟨l2,h2,rfl⟩:=h
    cases xs with
    | nil=>simp at hl
    | cons y xs =>
     have t0:=ht 0 x rfl
     simp only[List.getElem?_cons_zero]at t0
     obtain⟨d,ps⟩:=y
     obtain⟨a1,Ea,a2,a3,a4,a5⟩:=hr x (by simp) l1 h1 n _ d ps t0 (hb (d,ps) (by simp))
     obtain⟨Fx,b2,b3,b4,b5⟩:=eb fs (off+l1.length) l2 xs h2 (fun z hz=>hr z (by simp[hz])) (by simpa using hl) (fun i z hz=>by have:=ht (i+1) z (by simpa using hz);simpa using this) (fun z hz=>hb z (by simp[hz])) (by simp at hle;omega)
     have e1:(cs.drop off).take (l1++l2).length=(cs.drop x.offset).take (P.cellsOf x.type)++(cs.drop (off+l1.length)).take l2.length:=by
      rw[hc.1,←hc.2,List.length_append,List.take_add,List.drop_drop]
     have Af:Ea.length=l1.length:=by rw[a2.1,a1]
     refine⟨Ea++Fx,by rw[e1];exact a2.append b2,fun t ht=>?_,fun j s t hs ht=>?_,by rw[vS];simp only[List.map_cons,aC];omega⟩
     ·rcases List.mem_append.1 ht with h|h
      ·exact a3 t h
      ·exact b3 t h
     ·by_cases hj:j<l1.length
      ·rw[List.getElem?_append_left hj]at hs
       rw[List.getElem?_append_left (by omega)]at ht
       exact a4 j s t hs ht
      ·rw[List.getElem?_append_right (by omega)]at hs
       rw[List.getElem?_append_right (by omega),Af]at ht
       exact b4 _ s t hs ht
   ·cases h
  ·cases h
theorem yp {r o:Nat}{v:Value}(h:W.cell? ⟨r,o,none⟩=some v):mL (g0 P W) W r o v:=⟨by simp[g0,dN h],h⟩
theorem reads:∀(n:Nat) (t:TypeId) (l:List Sh),jt P n t=some l→Reads enc P W held B t l
 | 0,_,_,h=>by simp[jt]at h
 | n+1,t,l,h=>by
  intro fuel cs d ps hd hb
  simp only[jt]at h
  split at h
  ·rename_i hu;cases h
   obtain⟨b,rfl,hx⟩:=DataW.trod_bool hu hd
   exact⟨rfl,[.bool b],ax.cons (.bool b) ax.nil,by simp[aS,T.one],fun j s t hs ht=>by cases j with
    | zero=>simp at hs ht;subst hs;subst ht;exact .bool b
    | succ j=>simp at hs,by have:=eK d;simp only[jj,T.bk];omega⟩
  ·rename_i k hu;cases h
   obtain⟨m,rfl,hx,hw⟩:=DataW.trod_int hu hd
   exact⟨rfl,[.int k m],ax.cons (.int k m) ax.nil,by simp[aS,T.one],fun j s t hs ht=>by cases j with
    | zero=>simp at hs ht;subst hs;subst ht;exact .int hw
    | succ j=>simp at hs,by have:=eK d;simp only[jj,T.bk];omega⟩
  ·rename_i hu;cases h
   obtain⟨s,rfl,hx,hw⟩:=DataW.trod_string hu hd
   cases hx
   exact⟨rfl,[.str s],ax.cons (.str s) ax.nil,by simp[aS,T.one],fun j s' t hs ht=>by cases j with
    | zero=>simp at hs ht;subst hs;subst ht;exact .str hw (by simp[aE]at hb;have:s.data.size=s.size:=rfl;omega)
    | succ j=>simp at hs,by simp only[jj,T.bk,aE];have:s.data.size=s.size:=rfl;simp⟩
  ·rename_i e hu
   split at h
   ·rename_i le he
    split at h
    ·rename_i hc
     cases h
     have ih:=reads n e le he
     rcases DataW.trod_slice hu hd with⟨rfl,hx⟩|⟨a,len,cap,elems,rest,m,_,rfl,hx,_,h1,h2,h3,h4,h5,_⟩
     ·exact⟨rfl,[.sl .nil []],ax.cons .slnil ax.nil,by simp[aS,T.one],fun j s t hs ht=>by cases j with
       | zero=>simp at hs ht;subst hs;subst ht;exact .nil
       | succ j=>simp at hs,by have:=eK d;simp only[jj,T.bk,zq];omega⟩
     ·cases hx
      have Ag:∀x∈elems,aE x.1≤B:=fun x hx=>by
       have:=gE (List.mem_map_of_mem (f:=(·.1)) hx);simp only[aE]at hb;omega
      have Gw:len≤B:=by
       have:=rB (elems.map (·.1));simp only[aE]at hb;simp at this;omega
      have z1:∀i,i<len→∃c:List T,c.length=le.length∧∃us,W.cells? 0 (a.add (i*P.cellsOf e)) (P.cellsOf e)=some us∧ax (g0 P W) W c us∧aS c∧(∀(j:Nat) (s:Sh) (t:T),le[j]?=some s→c[j]?=some t→bX B s t)∧∀d,(elems.map (·.1))[i]?=some d→jj c≤aE d:=by
       intro i hi
       have hk:=h4 i hi
       have gh:i<elems.length:=by omega
       rw[List.getElem?_eq_getElem gh]at hk
       obtain⟨us,k1,k2⟩:=Option.bind_eq_some_iff.1 hk
       obtain⟨q1,ts,q2,q3,q4,q5⟩:=ih m us elems[i].1 elems[i].2 k2 (Ag _ (List.getElem_mem gh))
       exact⟨ts,by rw[q2.1,q1],us,k1,q2,q3,q4,fun d hd=>by rw[List.getElem?_map,List.getElem?_eq_getElem gh]at hd;simp only[Option.map_some,Option.some.injEq]at hd;subst hd;exact q5⟩
      obtain⟨es,Eb,Ah⟩:=ot len z1
      have x8:bX B (.sl le) (.sl .arg es):=.sl (by omega) (by omega) (fun c hc=>by
       obtain⟨i,hi,rfl⟩:=List.getElem_of_mem hc
       exact(Ah i _ (List.getElem?_eq_getElem hi)).1) (fun c hc=>by
       obtain⟨i,hi,rfl⟩:=List.getElem_of_mem hc
       obtain⟨_,_,_,_,_,q,_⟩:=Ah i _ (List.getElem?_eq_getElem hi)
       exact q)
      have bQ:VR (g0 P W) W (.sl .arg es) (.slice (some a) len cap):=by
       by_cases fO:cap=0
       ·have:len=0:=by omega
        subst this;subst fO
        have:es=[]:=List.eq_nil_of_length_eq_zero Eb
        subst this;exact .dn _
       ·have wO:a.spot=none:=by
         have cK:∃us,W.cells? 0 (a.add (0*P.cellsOf e)) (P.cellsOf e)=some us:=by
          by_cases hl:0<len
          ·obtain⟨_,_,us,k,_⟩:=z1 0 hl;exact⟨us,k⟩
          ·have h0:len=0:=by omega
           obtain⟨k1,k2⟩:=h5 rfl
           have:=k2 0 (by omega)
           have hr:0<rest.length:=by omega
           rw[List.getElem?_eq_getElem hr,h0]at this
           obtain⟨us,k3,_⟩:=Option.bind_eq_some_iff.1 this
           exact⟨us,by simpa using k3⟩
         obtain⟨us,Fy⟩:=cK
         obtain⟨k1,k2⟩:=mc Fy
         have xW:0<us.length:=by omega
         have mZ:=k2 0 us[0] (List.getElem?_eq_getElem xW)
         unfold World.cell? at mZ
         split at mZ
         ·split at mZ
          ·cases mZ
          ·rename_i mN;simpa[Addr.add]using mN
         ·cases mZ
        obtain⟨r,o,sp⟩:=a
        simp only at wO;subst wO
        rw[←Eb]
        have hn:∀c∈es,c.length=le.length:=fun c hc=>by
         obtain⟨i,hi,rfl⟩:=List.getElem_of_mem hc
         exact(Ah i _ (List.getElem?_eq_getElem hi)).1
        have cK:∀(i j:Nat) (c:List T) (t:T),es[i]?=some c→c[j]?=some t→∃v,W.cell? ⟨r,o+i*le.length+j,none⟩=some v∧VR (g0 P W) W t v∧t.one=true:=by
         intro i j c t hi hj
         obtain⟨q1,us,q2,q3,q4,_⟩:=Ah i c hi
         obtain⟨k1,k2⟩:=mc q2
         have Ec:j<us.length:=by rw[←q3.1];exact(List.getElem?_eq_some_iff.1 hj).1
         refine⟨us[j],?_,q3.2 j t _ hj (List.getElem?_eq_getElem Ec),q4 t (List.mem_of_getElem? hj)⟩
         have:=k2 j us[j] (List.getElem?_eq_getElem Ec)
         rw[←hc.1,a6,a6]at this
         exact this
        refine .sl (n:=le.length) (fun i j=>(W.cell? ⟨r,o+i*le.length+j,none⟩).getD undef) trivial (by omega) hn (fun i j c t hi hj=>?_) (fun i j c t hi hj=>?_)
        ·obtain⟨v,q1,q2,q3⟩:=cK i j c t hi hj
         exact⟨q3,by rw[q1];exact yp q1⟩
        ·obtain⟨v,q1,q2,q3⟩:=cK i j c t hi hj
         rw[q1];exact q2
      exact⟨rfl,[.sl .arg es],ax.cons bQ ax.nil,by simp[aS,T.one],fun j s t hs ht=>by cases j with
       | zero=>simp at hs ht;subst hs;subst ht;exact x8
       | succ j=>simp at hs,by
       have Ed:=rA es (elems.map (·.1)) (by simp;omega) fun i c d hc hd=>by
        obtain⟨_,_,_,_,_,_,q⟩:=Ah i c hc
        exact q d hd
       simp only[jj,T.bk,aE];omega⟩
    ·cases h
   ·cases h
  ·rename_i fs hu
   split at h
   ·rename_i l' C0
    split at h
    ·rename_i hc
     cases h
     obtain⟨xs,m,_,hx,k1,k2,k3⟩:=DataW.trod_struct hu hd
     cases hx
     have Ag:∀x∈xs,aE x.1≤B:=fun x hx=>by
      have:=gE (List.mem_map_of_mem (f:=(·.1)) hx);simp only[aE]at hb;omega
     obtain⟨ts,a1,a2,a3,a4⟩:=eb (n:=m) (cs:=cs) fs.toList 0 l xs C0 (fun x _ l2 h2=>reads n x.type l2 h2) (by simpa using k2) (fun i x hi=>k3 i x (by simpa using hi)) Ag (by omega)
     have e1:(cs.drop 0).take l.length=cs:=by rw[List.drop_zero,hc,←k1];simp
     rw[e1]at a1
     exact⟨by omega,ts,a1,a2,a3,by simp only[aE];omega⟩
    ·cases h
   ·cases h
  ·rename_i k e hu
   split at h
   ·rename_i l' C0
    split at h
    ·rename_i hc
     cases h
     obtain⟨xs,m,_,hx,k1,k2,k3⟩:=DataW.trod_array hu hd
     cases hx
     have Ag:∀x∈xs,aE x.1≤B:=fun x hx=>by
      have:=gE (List.mem_map_of_mem (f:=(·.1)) hx);simp only[aE]at hb;omega
     obtain⟨ts,a1,a2,a3,a4⟩:=eb (n:=m) (cs:=cs) (oq k e (P.cellsOf e)) 0 l xs C0 (fun x hx l2 h2=>by
      obtain⟨i,_,rfl⟩:=List.mem_map.1 hx;exact reads n e l2 h2) (by rw[k2];simp[oq]) (fun i x hi=>by
      simp only[oq,List.getElem?_map,Option.map_eq_some_iff]at hi
      obtain⟨j,hj,rfl⟩:=hi
      obtain⟨h1,h2⟩:=List.getElem?_eq_some_iff.1 hj
      rw[List.getElem_range]at h2
      subst h2
      exact k3 i (by simpa using h1)) Ag (by omega)
     have e1:(cs.drop 0).take l.length=cs:=by rw[List.drop_zero,hc,←k1];simp
     rw[e1]at a1
     exact⟨by omega,ts,a1,a2,a3,by simp only[aE];omega⟩
    ·cases h
   ·cases h
  ·cases h
def rC (P:Program)(t:TypeId):Option Sh:=match P.underlying t with
 | some .bool|some (.int _)|some .string|some (.slice _)=>match jt P 9 t with
  | some [s]=>some s
  | _=>none
 | some (.struct _)|some (.array _ _)=>match jt P 9 t with
  | some l=>some (.ag l)
  | none=>none
 | _=>none
def gF (P:Program):List TypeId→Option (List Sh)
 | []=>some []
 | t :: ts=>match rC P t,gF P ts with
  | some s,some l=>some (s :: l)
  | _,_=>none
inductive fD (B:Nat):List Sh→List T→Prop
 | nil:fD B [] []
 | cons {s t ss ts} (h:bX B s t) (hs:fD B ss ts):fD B (s :: ss) (t :: ts)
theorem rD {base:Nat}{t:TypeId}{s:Sh}{v:Value}{d:DataW H}{p:List MemPlace}(h:rC P t=some s)(hv:Value.okWide P W .any base t v)(hf:DataW.Trod enc P W 0 (fun _=>true) held t v d p)(hB:aE d≤B) :
  ∃u:T,VR (g0 P W) W u v∧bX B s u∧u.bk≤aE d:=by
 obtain⟨fuel,hf⟩:=hf
 have one:(∀cs,v≠.agg cs)→v.cells.toList=[v]:=by
  intro h;cases v<;>first|rfl|exact absurd rfl (h _)
 have sc:v.cells.toList=[v]→(match jt P 9 t with|some [s]=>some s|_=>none)=some s→∃u:T,VR (g0 P W) W u v∧bX B s u∧u.bk≤aE d:=by
  intro C1 h
  split at h
  ·rename_i s' h3
   cases h
   obtain⟨c1,us,c2,c3,c4,c5⟩:=reads (B:=B) 9 t [s] h3 fuel _ d p hf hB
   rw[C1]at c2
   have Ee:us.length=1:=by have:=c2.1;simpa using this
   obtain⟨u,rfl⟩:∃u,us=[u]:=by
    cases us with
    | nil=>simp at Ee
    | cons u Fz=>cases Fz with
     | nil=>exact⟨u,rfl⟩
     | cons _ _=>simp at Ee
   exact⟨u,c2.head,c4 0 s u rfl rfl,by simp only[jj]at c5;omega⟩
  ·cases h
 have ag:(∃cs,v=.agg cs)→(match jt P 9 t with|some l=>some (Sh.ag l)|none=>none)=some s→∃u:T,VR (g0 P W) W u v∧bX B s u∧u.bk≤aE d:=by
  rintro⟨cs,rfl⟩ h
  split at h
  ·rename_i l h3
   cases h
   obtain⟨c1,us,c2,c3,c4,c5⟩:=reads (B:=B) 9 t l h3 fuel _ d p hf hB
   have hc:(Value.agg cs).cells.toList=cs.toList:=rfl
   rw[hc]at c1 c2
   refine⟨.agg us,.agg (by have:=c2.1;simpa using this.symm) c3 (fun i t v a b=>c2.2 i t v a (by simpa using b)),.ag (by rw[c2.1,c1]) c4,by have:=eK d;simp only[T.bk];omega⟩
  ·cases h
 simp only[rC]at h
 split at h
 ·rename_i hu
  exact sc (one (by rintro cs rfl;simp[Value.okWide,hu,Cell.okWide,Cell.ok]at hv)) h
 ·rename_i hu
  exact sc (one (by rintro cs rfl;simp[Value.okWide,hu,Cell.okWide,Cell.ok]at hv)) h
 ·rename_i hu
  exact sc (one (by rintro cs rfl;simp[Value.okWide,hu,Cell.okWide,Cell.ok]at hv)) h
 ·rename_i hu
  exact sc (one (by rintro cs rfl;simp[Value.okWide,hu,Cell.okWide,Cell.ok]at hv)) h
 ·rename_i hu
  exact ag (by cases v<;>first|exact⟨_,rfl⟩|simp[Value.okWide,hu]at hv) h
 ·rename_i hu
  exact ag (by cases v<;>first|exact⟨_,rfl⟩|simp[Value.okWide,hu]at hv) h
 ·cases h
theorem jW {base:Nat}:∀(ts:List TypeId) (p0:List Sh) (args:List Value) (ds:List (DataW H)) (p:List MemPlace),gF P ts=some p0→(∀(j:Nat) t v,ts[j]?=some t→args[j]?=some v→Value.okWide P W .any base t v) →
  DataW.TrodAll enc P W 0 (fun _=>true) held ts args ds p→aC ds≤B→∃as:List T,ax (g0 P W) W as args∧fD B p0 as∧jj as≤aC ds
 | [],p0,args,ds,p,h,_,hA,_=>by
  cases args<;>cases ds<;>simp[DataW.TrodAll]at hA
  simp only[gF,Option.some.injEq]at h;subst h
  exact⟨[],ax.nil,.nil,by simp[jj]⟩
 | t :: ts,p0,args,ds,p,h,me,hA,hB=>by
  cases args with
  | nil=>cases ds<;>simp[DataW.TrodAll]at hA
  | cons v args =>
   cases ds with
   | nil=>simp[DataW.TrodAll]at hA
   | cons d ds =>
    obtain⟨p,q,hf,h2,_⟩:=hA
    simp only[gF]at h
    split at h
    ·rename_i s l h3 h4
     cases h
     simp only[aC]at hB
     obtain⟨as,b1,b2,b3⟩:=jW ts l args ds q h4 (fun j t v a b=>me (j+1) t v (by simpa using a) (by simpa using b)) h2 (by omega)
     obtain⟨u,c1,c2,c3⟩:=rD (B:=B) (base:=base) (d:=d) (p:=p) h3 (me 0 t v rfl rfl) hf (by omega)
     refine⟨u :: as,ax.cons c1 b1,.cons c2 b2,?_⟩
     show T.bk u+jj as≤aE d+aC ds
     omega
    ·cases h
end
end Go.Rmp
end

section
namespace Go.Rmp
open Go.ChangeShapes Go.RowKit
section
variable {H:Type} {enc:TypeId×Value→H} {P:Program} {W W':World}
theorem fj {sp:Nat→Bool}{held:Bool}:∀(ts:List TypeId) (vs:List Value) (ds:List (DataW H)) (ps:List MemPlace),DataW.TrodAll enc P W 0 sp held ts vs ds ps→(∀p∈ps,W.sameAt W' p)→DataW.TrodAll enc P W' 0 sp held ts vs ds ps
 | [],[],[],_,h,_=>h
 | t :: ts,v :: vs,d :: ds,ps,⟨p,q,⟨n,hn⟩,h2,e⟩,hs=>⟨p,q,⟨n,DataW.trod_carry n t _ _ hn (fun x hx=>hs x (by rw[e];exact List.mem_append_left _ hx))⟩,fj ts vs ds q h2 (fun x hx=>hs x (by rw[e];exact List.mem_append_right _ hx)),e⟩
 | [],_ :: _,_,_,h,_=>h.elim
 | [],[],_ :: _,_,h,_=>h.elim
 | _ :: _,[],_,_,h,_=>h.elim
 | _ :: _,_ :: _,[],_,h,_=>h.elim
theorem nG {g:Ctx}{Hh:aa}(h:SR W g Hh W')(S:MemPlace→Prop):W.keptBut W' S:=by
 refine⟨h.env.1,h.env.2,fun i hi=>?_⟩
 rw[h.eu i hi]
 exact(World.keptBut_refl W S).2.2 i hi
theorem nH (h:∀r,r<W.heap.size→W'.heap[r]?=W.heap[r]?){b o:Nat}(hb:b<W.heap.size):W'.frozen? ⟨b,o,none⟩=W.frozen? ⟨b,o,none⟩:=by
 unfold World.frozen?
 rw[h _ hb]
theorem pO {E:Env}(hE:lZ P E){f:FuncId}{as:List T}{args:List Value}(hv:ax (g0 P W) W as args)(hW:Go.Rmp.W E (.call f as) [] (fun o _=>o=.val (.bool true))) :
  Calls P f args.toArray W fun e W'=>e=.returned (.bool true)∧(∀S,W.keptBut W' S)∧∀r,r<W.heap.size→W'.heap[r]?=W.heap[r]?:=by
 obtain⟨_,hc⟩:=Go.Rmp.W.Fl hE hW W (g0 P W) W args (Fv P W) (Fu P W) hv
 refine(callsIn_wide.1 hc).mono fun e W' ⟨v,t,g',H',he,hq,_,sr,bQ,_⟩=>?_
 cases hq
 cases bQ
 exact⟨he,nG sr,sr.eu⟩
theorem ju {E:Env}(hE:lZ P E){f:FuncId}{fn:Func}{s:ChangeSpec}{p0:List Sh}{B:Nat}{tb:TypeId}(K:Kids P (·<P.types.size))(hz:∀t e,t<P.types.size→P.underlying t=some (.slice e)→0<P.cellsOf e)
  (x8:gF P fn.params.toList=some p0) (aA:∀t∈fn.params.toList,t<P.types.size) (B2:fn.resultTypes=#[tb]) (B3:P.underlying tb=some .bool) (ou:s.vars=[])
  (jV:∀ds:List (DataW H),ds.length=fn.params.toList.length→s.fn H ds={ results:=[.lit (.bool true)],args:=ds })
  (yq:∀as:List T,fD B p0 as→jj as≤B→Go.Rmp.W E (.call f as) [] (fun o _=>o=.val (.bool true)))
  (base:Nat) (args:Array Value) (ds gs:List (DataW H)) (before:List MemPlace)
  (me:∀(j:Nat) t v,fn.params[j]?=some t→args[j]?=some v→Value.okWide P W .any base t v)
  (hW:DataW.Whole enc P fn.params.toList s.vars false W args.toList ds gs before) (hB:aC (ds++gs)≤B) :
  Calls P f args W fun e W'=>∃v,e=.returned v∧s.post enc P fn false true false false W args v W':=by
 have B4:=hW
 obtain⟨p,q,hA,hV,Co,BL,jH⟩:=hW
 rw[ou]at hV
 obtain⟨rfl,rfl⟩:gs=[]∧q=[]:=by
  cases gs with
  | nil=>exact⟨rfl,hV⟩
  | cons _ _=>exact hV.elim
 simp only[List.append_nil]at Co hB
 subst Co
 obtain⟨as,gi,FA,Ed⟩:=jW fn.params.toList p0 args.toList ds before x8 (fun j t v a b=>me j t v (by simpa using a) (by simpa using b)) hA hB
 have hc:=pO hE gi (yq as FA (Nat.le_trans Ed hB))
 rw[Array.toArray_toList]at hc
 refine hc.mono fun e W' ⟨he,hg,hold⟩=>⟨_,he,?_⟩
 have hlen:ds.length=fn.params.toList.length:=(trodAll_length hA).2
 have yr:=jV ds hlen
 have mN:∀p∈before,(fun b=>decide (b<W.heap.size)) p.block=true:=fun p hp=>by simpa using B4.lt p hp
 have om:∀sp:Nat→Bool,(∀p∈before,sp p.block=true)→DataW.TrodAll enc P W' 0 sp true fn.params.toList args.toList (s.fn H (ds++[])).args before:=by
  intro sp mN
  rw[List.append_nil,yr]
  refine DataW.TrodAll.respare K hz aA (fj _ _ _ _ hA fun x hx=>?_) mN
  have hb:=B4.lt x hx
  cases x with
  | cell b o=>simp only[World.sameAt,World.cell?];rw[hold b hb]
  | map b=>exact hold b hb
 have g9:∀(b:Nat) (sp:Nat→Bool) (hd:Bool),DataW.TrodAll enc P W' b sp hd fn.resultTypes.toList ((Value.bool true).resultList fn.resultTypes.size) (s.fn H (ds++[])).results []:=by
  intro b sp hd
  rw[List.append_nil,yr,B2]
  simp only[Value.resultList]
  exact trodAll_mk1 (shut_bool B3 _)
 have rE:∀sp:Nat→Bool,DataW.TrodVars enc P W' sp s.vars (s.fn H (ds++[])).vars []:=by
  intro sp
  rw[List.append_nil,yr,ou];rfl
 refine⟨ds,[],before,[],before,[],B4,g9 _ _ _,om _ mN,rE _,World.keptBut_mono (fun p hp=>⟨hp,?_⟩) (hg (fun p=>p∈before)),fun _=>?_⟩
 ·exact Or.inr (by simpa using hp)
 ·refine⟨fun j t r hj hr=>?_,_,_,([]++before)++[],⟨[]++before,[],trodAll_append (om _ (fun _ _=>rfl)) (g9 _ _ _),rE _,rfl,?_,?_⟩,?_⟩
  ·rw[B2]at hj hr
   cases j with
   | zero=>simp[Value.resultList]at hj hr;subst hj;subst hr;exact okWide_bool_mk B3 _
   | succ j=>simp at hj
  ·intro b off hp
   have BP:MemPlace.cell b off∈before:=by simpa using hp
   have hb:b<W.heap.size:=B4.lt _ BP
   rw[nH hold hb]
   exact BL b off BP
  ·intro ha;cases ha
  ·intro p hp _
   simpa using hp
theorem kQ {E:Env}(hE:lZ P E){f:FuncId}{fn:Func}{s:ChangeSpec}{p0:List Sh}{B:Nat}{tb:TypeId}(K:Kids P (·<P.types.size))(hz:∀t e,t<P.types.size→P.underlying t=some (.slice e)→0<P.cellsOf e)
  (x8:gF P fn.params.toList=some p0) (aA:∀t∈fn.params.toList,t<P.types.size) (B2:fn.resultTypes=#[tb]) (B3:P.underlying tb=some .bool) (ou:s.vars=[])
  (jV:∀ds:List (DataW H),ds.length=fn.params.toList.length→s.fn H ds={ results:=[.lit (.bool true)],args:=ds })
  (yq:∀as:List T,fD B p0 as→Go.Rmp.W E (.call f as) [] (fun o _=>o=.val (.bool true)))
  (base:Nat) (args:Array Value) (ds gs:List (DataW H)) (before:List MemPlace)
  (me:∀(j:Nat) t v,fn.params[j]?=some t→args[j]?=some v→Value.okWide P W .any base t v)
  (hW:DataW.Whole enc P fn.params.toList s.vars false W args.toList ds gs before) (hB:aC (ds++gs)≤B) :
  Calls P f args W fun e W'=>∃v,e=.returned v∧s.post enc P fn false true false false W args v W' :=
 ju hE K hz x8 aA B2 B3 ou jV (fun as h _=>yq as h) base args ds gs before me hW hB
end
end Go.Rmp
end

section
namespace Go.Rmp
def ll (R:ah)(H:aa):List Rd→Prop
 | []=>True
 | r :: l=>(aq R r.g=true→ae R H r.op=some (R r.d,H))∧ll R H l
theorem eL {R:ah}{H:aa}:∀(l:List Rd),ll R H l→cF R H l
 | [],_=>fun r h=>by cases h
 | x :: l,h=>fun r hr=>by
  rcases List.mem_cons.1 hr with rfl|hr
  ·exact h.1
  ·exact eL l h.2 r hr
theorem rF (R:ah)(d:Nat)(v:T):aw R (some d) v=gg R d v:=rfl
theorem rG (R:ah)(v:T):aw R none v=R:=rfl
theorem rH (R:ah)(d:Nat)(v:T)(t:Nat):gg R d v t=if t=d then v else R t:=rfl
theorem oA (a:T)(l:List T):dm (a :: l) 0=a:=rfl
theorem Ai (R:ah)(t:Nat):X.ev R (.r t)=R t:=rfl
theorem Aj (R:ah)(v:T):X.ev R (.c v)=v:=rfl
def rI (R:ah)(g:Gd)(s:List Rd):Bo→Prop
 | .gV _ c x y=>g=none∧s=[]∧c=.slice∧x.ev R=.sl .arg []∧y.ev R=.sl .nil []
 | _=>False
structure C2 (E:Env)(R:ah)(H:aa)(x:X)(az:List X)(P:aa→Bool→Prop)(b n:Nat)(R0:ah)(ps:List Nat)(bc body:C)(M1 M:Out→aa→Prop):Prop where
 hf:x.ev R=.gL b
 hb:H[b]?=some (.loop .ready none n R0 ps bc body)
 hn:az.length=ps.length
 h1:W E (.code bc (fJ R0 ps (az.map (X.ev R)))) H M1
 o4:∀o H',M1 o H'→(∃R1,o=.ex .normal R1)∧H'[b]?=some (.loop .ready none n R0 ps bc body)
 h2:∀R1 H1,M1 (.ex .normal R1) H1→W E (.code body R1) (H1.set b (.loop .busy none n R0 ps bc body)) M
 lx:∀o H',M o H'→H'[b]?=some (.loop .busy none n R0 ps bc body)
 h3:∀R' H',M (.ex .normal R') H'→P (H'.set b (.loop .ready none n R0 ps bc body)) true
 h4:∀e R' H',M (.ex e R') H'→e≠.normal→P (H'.set b (.loop .done (some e) n R0 ps bc body)) false
def rJ (R:ah)(H:aa)(b:Bo)(v:T)(H':aa):Prop:=∃n bytes t y bb len cs,b=.app n bytes false (.r t) y∧R t=.aO bb 0 len n∧H[bb]?=some (.cells cs)∧len*n=cs.length∧0<len ∧
 ae (gg R t (.sl (.own H.length len) (dM cs 0 len n))) (H.set bb (.fz cs)++[.tok len]) b=some (v,H')
def ec (E:Env):List O→ah→aa→(ah→aa→Prop)→Prop
 | [],R,H,K=>K R H
 | ⟨d,.b b,g,s⟩ :: l,R,H,K=>match aq R g with
  | false=>ec E l (aw R d ar) H K
  | true=>match ae R H b with
   | some (v,H')=>ll R H' s∧ec E l (aw R d v) H' K
   | none=>(rI R g s b∧∀t:Bool,ec E l (aw R d (.bool t)) H K) ∨
    (∃x bb bi es ix cur,b=.gW x∧x.ev R=.ptr bi 0∧H[bb]?=some (.cr es ix bi cur)∧∀t H',fM H bb bi es ix t H'→ll R H' s∧ec E l (aw R d t) H' K) ∨
    ∃v H',rJ R H b v H'∧ll R H' s∧ec E l (aw R d v) H' K
 | ⟨d,.call f az,g,s⟩ :: l,R,H,K=>match aq R g with
  | false=>ec E l (aw R d ar) H K
  | true=>∃M:Out→aa→Prop,W E (.call f (az.map (X.ev R))) H M∧∀v H',M (.val v) H'→ll R H' s∧ec E l (aw R d v) H' K
 | ⟨d,.aQ x az,g,s⟩ :: l,R,H,K=>match aq R g with
  | false=>ec E l (aw R d ar) H K
  | true=>(∃(f:Nat) (cs:List T) (M:Out→aa→Prop),x.ev R=.fn f cs∧W E (.call f (az.map (X.ev R)++cs)) H M∧∀v H',M (.val v) H'→ll R H' s∧ec E l (aw R d v) H' K) ∨
   ∃b n R0 ps bc body M1 M,C2 E R H x az (fun H' t=>ll R H' s∧ec E l (aw R d (.bool t)) H' K) b n R0 ps bc body M1 M
theorem cI {E:Env}{Q:Out→aa→Prop}:∀(l:List O) (R:ah) (H:aa),ec E l R H (fun R' H'=>Q (.ex .normal R') H')→W E (.ops l R) H Q
 | [],R,H,h=>.nil h
 | ⟨d,.b b,g,s⟩ :: l,R,H,h=>by
  simp only[ec]at h
  split at h
  ·rename_i hw;exact .no hw (cI l _ _ h)
  ·rename_i hw
   split at h
   ·rename_i v H' he;exact .op hw he (eL _ h.1) (cI l _ _ h.2)
   ·rcases h with h|⟨x,bb,bi,es,ix,cur,rfl,hx,hb,h⟩|⟨v,H',⟨n,bytes,t,y,bb,len,cs,rfl,ht,hb,hlen,h0,he⟩,h⟩
    ·cases b with
     | gV neg c x y =>
      obtain⟨⟨hg,hs,hc,hx,hy⟩,h⟩:=h
      subst hg
      exact .mW hs (fun t=>cI l _ _ (h t)) hx hy hc
     | _=>exact h.1.elim
    ·exact .gW hw hx hb (fun t H' hm=>eL _ (h t H' hm).1) fun t H' hm=>cI l _ _ (h t H' hm).2
    ·exact .za hw ht hb hlen h0 he (eL _ h.1) (cI l _ _ h.2)
 | ⟨d,.call f az,g,s⟩ :: l,R,H,h=>by
  simp only[ec]at h
  split at h
  ·rename_i hw;exact .no hw (cI l _ _ h)
  ·rename_i hw
   obtain⟨M,h1,h2⟩:=h
   exact .call M hw h1 (fun v H' hm=>eL _ (h2 v H' hm).1) (fun v H' hm=>cI l _ _ (h2 v H' hm).2)
 | ⟨d,.aQ x az,g,s⟩ :: l,R,H,h=>by
  simp only[ec]at h
  split at h
  ·rename_i hw;exact .no hw (cI l _ _ h)
  ·rename_i hw
   rcases h with⟨f,cs,M,hf,h1,h2⟩|⟨b,n,R0,ps,bc,body,M1,M,h⟩
   ·exact .aQ M hw hf h1 (fun v H' hm=>eL _ (h2 v H' hm).1) (fun v H' hm=>cI l _ _ (h2 v H' hm).2)
   ·exact .gL M1 M hw h.hf h.hb h.hn h.h1 h.o4 h.h2 h.lx (fun R' H' hm=>eL _ (h.h3 R' H' hm).1) (fun R' H' hm=>cI l _ _ (h.h3 R' H' hm).2) (fun e R' H' hm he=>eL _ (h.h4 e R' H' hm he).1) (fun e R' H' hm he=>cI l _ _ (h.h4 e R' H' hm he).2)
def jX (K:ah→aa→Prop)(Q:Out→aa→Prop):Out→aa→Prop
 | .ex .normal R,H=>K R H
 | o,H=>Q o H
def fE (id:Nat)(Q:Out→aa→Prop):Out→aa→Prop
 | .ex (.exit i) R,H=>if i=id then Q (.ex .normal R) H else Q (.ex (.exit i) R) H
 | o,H=>Q o H
def gS (E:Env):C→ah→aa→(Out→aa→Prop)→Prop
 | .skip,R,H,Q=>Q (.ex .normal R) H
 | .ops l,R,H,Q=>ec E l R H fun R' H'=>Q (.ex .normal R') H'
 | .seq a b,R,H,Q=>gS E a R H (jX (fun R' H'=>gS E b R' H' Q) Q)
 | .cond x a b,R,H,Q=>match x.ev R with
  | .bool true=>gS E a R H Q
  | .bool false=>gS E b R H Q
  | _=>False
 | .block id a,R,H,Q=>gS E a R H (fE id Q)
 | .exit id,R,H,Q=>Q (.ex (.exit id) R) H
 | .ret,R,H,Q=>Q (.ex .ret R) H
 | .loop a,R,H,Q=>W E (.code (.loop a) R) H Q
 | .bd n x ps a b,R,H,Q=>W E (.code (.bd n x ps a b) R) H Q
theorem fF {E:Env}:∀(c:C) (R:ah) (H:aa) (Q:Out→aa→Prop),gS E c R H Q→W E (.code c R) H Q
 | .skip,R,H,Q,h=>.skip h
 | .ops l,R,H,Q,h=>.xw (cI l R H h)
 | .seq a b,R,H,Q,h=>.seq _ (fF a R H _ h) (fun R' H' hm=>fF b R' H' Q hm) (fun o H' hm hn=>by
  cases o with
  | ex e R'=>cases e with
   | normal=>exact absurd rfl (hn R')
   | exit id=>exact hm
   | ret=>exact hm
  | val v=>exact hm)
 | .cond x a b,R,H,Q,h=>by
  simp only[gS]at h
  split at h
  ·rename_i hx;exact .cond true hx (fF a R H Q h)
  ·rename_i hx;exact .cond false hx (fF b R H Q h)
  ·exact h.elim
 | .block id a,R,H,Q,h=>.block _ (fF a R H _ h) (fun R' H' hm=>by simpa[fE]using hm) (fun o H' hm hn=>by
  cases o with
  | ex e R'=>cases e with
   | normal=>exact hm
   | exit i =>
    simp only[fE]at hm
    split at hm
    ·rename_i e;subst e;exact absurd rfl (hn R')
    ·exact hm
   | ret=>exact hm
  | val v=>exact hm)
 | .exit id,R,H,Q,h=>.exit h
 | .ret,R,H,Q,h=>.ret h
 | .loop a,R,H,Q,h=>h
 | .bd n x ps a b,R,H,Q,h=>h
section
variable (E:Env) (R:ah) (H:aa) (K:ah→aa→Prop) (Q:Out→aa→Prop) (l:List O) (d:Option Nat) (s:List Rd)
def B5:T→Bool
 | .bool c=>c
 | _=>false
def B6:T→Bool
 | .bool c=>!c
 | _=>false
def jY (b:Bo)(g:Gd)(e:Option (T×aa)):Prop:=match e with
 | some (v,H')=>ll R H' s∧ec E l (aw R d v) H' K
 | none=>(rI R g s b∧∀t:Bool,ec E l (aw R d (.bool t)) H K) ∨
  (∃x bb bi es ix cur,b=.gW x∧x.ev R=.ptr bi 0∧H[bb]?=some (.cr es ix bi cur)∧∀t H',fM H bb bi es ix t H'→ll R H' s∧ec E l (aw R d t) H' K) ∨
  ∃v H',rJ R H b v H'∧ll R H' s∧ec E l (aw R d v) H' K
def vT (b:Bo)(g:Gd)(w:Bool):Prop:=match w with
 | false=>ec E l (aw R d ar) H K
 | true=>jY E R H K l d s b g (ae R H b)
def Ak (v:T)(H':aa):Prop:=ll R H' s∧ec E l (aw R d v) H' K
def mg (f:Nat)(az:List T):Prop:=∃M:Out→aa→Prop,W E (.call f az) H M∧∀v H',M (.val v) H'→Ak E R K l d s v H'
def vU (f:Nat)(az:List X)(w:Bool):Prop:=match w with
 | false=>ec E l (aw R d ar) H K
 | true=>mg E R H K l d s f (az.map (X.ev R))
def nI (t:T)(az:List X):Prop:=match t with
 | .fn f cs=>mg E R H K l d s f (az.map (X.ev R)++cs)
 | _=>False
def wP (R:ah)(H:aa):Prop:=Q (.ex .normal R) H
def wQ (b:C)(R:ah)(H:aa):Prop:=gS E b R H Q
def rK (a b:C)(t:T):Prop:=match t with
 | .bool true=>gS E a R H Q
 | .bool false=>gS E b R H Q
 | _=>False
theorem wR:ec E [] R H K=K R H:=rfl
theorem Ef (b:Bo):ec E (⟨d,.b b,none,s⟩ :: l) R H K=jY E R H K l d s b none (ae R H b):=rfl
theorem Eg (b:Bo)(g:Nat×Bool):ec E (⟨d,.b b,some g,s⟩ :: l) R H K=vT E R H K l d s b (some g) (aq R (some g)):=by simp only[ec,vT];rfl
theorem Eh (f:Nat)(az:List X):ec E (⟨d,.call f az,none,s⟩ :: l) R H K=mg E R H K l d s f (az.map (X.ev R)):=rfl
theorem Al (f:Nat)(az:List X)(g:Nat×Bool):ec E (⟨d,.call f az,some g,s⟩ :: l) R H K=vU E R H K l d s f az (aq R (some g)):=by simp only[ec,vU];rfl
theorem FB {x:X}{az:List X}(h:nI E R H K l d s (x.ev R) az):ec E (⟨d,.aQ x az,none,s⟩ :: l) R H K:=by
 unfold nI at h
 split at h
 ·rename_i f cs hx
  obtain⟨M,h1,h2⟩:=h
  exact .inl ⟨f,cs,M,hx,h1,h2⟩
 ·exact h.elim
theorem Am {g:Nat×Bool}{x:X}{az:List X}(hg:aq R (some g)=false):ec E (⟨d,.aQ x az,some g,s⟩ :: l) R H K=ec E l (aw R d ar) H K:=by
 simp only[ec,hg]
theorem rL (neg:Bool)(c:uc)(x y:X):jY E R H K l d s (.gV neg c x y) none none=((s=[]∧c=.slice∧x.ev R=.sl .arg []∧y.ev R=.sl .nil [])∧∀t:Bool,ec E l (aw R d (.bool t)) H K):=by simp only[jY,rI,rJ,true_and,reduceCtorEq,false_and,exists_false,or_false]
theorem rM (b:Bo)(g:Gd)(v:T)(H':aa):jY E R H K l d s b g (some (v,H'))=(ll R H' s∧ec E l (aw R d v) H' K):=rfl
theorem wS (b:Bo)(g:Gd):vT E R H K l d s b g true=jY E R H K l d s b g (ae R H b):=rfl
theorem wT (b:Bo)(g:Gd):vT E R H K l d s b g false=ec E l (aw R d ar) H K:=rfl
theorem rN (f:Nat)(az:List X):vU E R H K l d s f az true=mg E R H K l d s f (az.map (X.ev R)):=rfl
theorem rO (f:Nat)(az:List X):vU E R H K l d s f az false=ec E l (aw R d ar) H K:=rfl
theorem eM {f:Nat}{az:List T}(M:Out→aa→Prop)(h1:W E (.call f az) H M)(h2:∀v H',M (.val v) H'→ll R H' s∧ec E l (aw R d v) H' K):mg E R H K l d s f az:=⟨M,h1,h2⟩
theorem rP:gS E .skip R H Q=Q (.ex .normal R) H:=rfl
theorem wU:gS E (.ops l) R H Q=ec E l R H (wP Q):=rfl
theorem oB:wP Q R H=Q (.ex .normal R) H:=rfl
theorem wV (a b:C):gS E (.seq a b) R H Q=gS E a R H (jX (wQ E Q b) Q):=rfl
theorem rQ (x:X)(a b:C):gS E (.cond x a b) R H Q=rK E R H Q a b (x.ev R):=rfl
theorem oC (id:Nat)(a:C):gS E (.block id a) R H Q=gS E a R H (fE id Q):=rfl
theorem rR (id:Nat):gS E (.exit id) R H Q=Q (.ex (.exit id) R) H:=rfl
theorem wW:gS E .ret R H Q=Q (.ex .ret R) H:=rfl
theorem rS (a:C):gS E (.loop a) R H Q=W E (.code (.loop a) R) H Q:=rfl
theorem oD (n:Nat)(x:X)(ps:List Nat)(a b:C):gS E (.bd n x ps a b) R H Q=W E (.code (.bd n x ps a b) R) H Q:=rfl
theorem oE (b:C):wQ E Q b R H=gS E b R H Q:=rfl
theorem rT (a b:C):rK E R H Q a b (.bool true)=gS E a R H Q:=rfl
theorem rU (a b:C):rK E R H Q a b (.bool false)=gS E b R H Q:=rfl
theorem rV (R:ah)(H:aa):jX K Q (.ex .normal R) H=K R H:=rfl
theorem rW (R:ah)(H:aa):jX K Q (.ex .ret R) H=Q (.ex .ret R) H:=rfl
theorem rX (id:Nat)(R:ah)(H:aa):jX K Q (.ex (.exit id) R) H=Q (.ex (.exit id) R) H:=rfl
theorem wX (id:Nat)(R:ah)(H:aa):fE id Q (.ex .normal R) H=Q (.ex .normal R) H:=rfl
theorem wY (id:Nat)(R:ah)(H:aa):fE id Q (.ex .ret R) H=Q (.ex .ret R) H:=rfl
theorem wZ (id i:Nat)(R:ah)(H:aa):fE id Q (.ex (.exit i) R) H=if i=id then Q (.ex .normal R) H else Q (.ex (.exit i) R) H:=rfl
theorem rY (t:Nat):aq R (some (t,true))=B5 (R t):=by cases h:R t<;>simp[aq,B5,h]
theorem rZ (t:Nat):aq R (some (t,false))=B6 (R t):=by cases h:R t<;>simp[aq,B6,h]
theorem w4 (c:Bool):B5 (.bool c)=c:=rfl
theorem w5:B5 ar=false:=rfl
theorem w6:B6 ar=false:=rfl
theorem w7 (c:Bool):B6 (.bool c)=!c:=rfl
end
def nJ (res:List Rs)(Q:Out→aa→Prop):Out→aa→Prop
 | .ex .normal R,H | .ex .ret R,H=>match fL R H res with
  | some v=>Q (.val v) H
  | none=>False
 | _,_=>False
theorem W.Ao {E:Env}{f:Nat}{fn:Fn}{az:List T}{H:aa}{Q:Out→aa→Prop}(hf:E.fn f=some fn)(hr:fn.body.ep=false)(hn:az.length=fn.np)(h:gS E fn.body (dm az) H (nJ fn.res Q)):W E (.call f az) H Q:=by
 refine .fn _ hf hr hn (fF _ _ _ _ h) fun o H' hm=>?_
 cases o with
 | ex e R =>
  cases e with
  | normal=>simp only[nJ]at hm;split at hm;exact⟨R,.inl rfl,_,by assumption,hm⟩;exact hm.elim
  | exit id=>exact hm.elim
  | ret=>simp only[nJ]at hm;split at hm;exact⟨R,.inr rfl,_,by assumption,hm⟩;exact hm.elim
 | val v=>exact hm.elim
theorem W.use {E:Env}{j:J}{H:aa}{Q Q':Out→aa→Prop}(h:W E j H Q)(hq:∀o H',Q o H'→Q' o H'):W E j H Q':=by
 induction h generalizing Q' with
 | skip h=>exact .skip (hq _ _ h)
 | exit h=>exact .exit (hq _ _ h)
 | ret h=>exact .ret (hq _ _ h)
 | xw _ ih=>exact .xw (ih hq)
 | seq M h1 h2 h3 _ fI=>exact .seq M h1 (fun R' H' hm=>fI R' H' hm hq) (fun o H' hm hn=>hq _ _ (h3 o H' hm hn))
 | cond t hx _ ih=>exact .cond t hx (ih hq)
 | block M h1 h2 h3 _=>exact .block M h1 (fun R' H' hm=>hq _ _ (h2 R' H' hm)) (fun o H' hm hn=>hq _ _ (h3 o H' hm hn))
 | loop M h1 h2 h3 _ fI=>exact .loop M h1 (fun R' H' hm=>fI R' H' hm hq) (fun o H' hm hn=>hq _ _ (h3 o H' hm hn))
 | nil h=>exact .nil (hq _ _ h)
 | no hg _ ih=>exact .no hg (ih hq)
 | op hg he hs _ ih=>exact .op hg he hs (ih hq)
 | call M hg h1 hs _ _ fI=>exact .call M hg h1 hs (fun v H' hm=>fI v H' hm hq)
 | aQ M hg hf h1 hs _ _ fI=>exact .aQ M hg hf h1 hs (fun v H' hm=>fI v H' hm hq)
 | gL M1 M hg hf hb hn h1 o4 h2 lx y7 _ y8 _ _ _ zo zp=>exact .gL M1 M hg hf hb hn h1 o4 h2 lx y7 (fun R' H' hm=>zo R' H' hm hq) y8 (fun e R' H' hm he=>zp e R' H' hm he hq)
 | mW hs h hx hy hc ih=>exact .mW hs (fun b=>ih b hq) hx hy hc
 | bd M hx h1 h2 _=>exact .bd M hx h1 (fun v H' hm=>let ⟨st,pe,a,b,c,d⟩:=h2 v H' hm;⟨st,pe,a,b,c,hq _ _ d⟩)
 | y9 M hf hn h1 h2 _=>exact .y9 M hf hn h1 (fun o H' hm=>let ⟨R',bs,a,b,c,d,v,e,f⟩:=h2 o H' hm;⟨R',bs,a,b,c,d,v,e,hq _ _ f⟩)
 | fn M hf hr hn h1 h2 _=>exact .fn M hf hr hn h1 (fun o H' hm=>let ⟨R',a,v,b,c⟩:=h2 o H' hm;⟨R',a,v,b,hq _ _ c⟩)
 | qd i M hi h1 h2 _=>exact .qd i M hi h1 (fun v H' hm=>hq _ _ (h2 v H' hm))
 | nU M h1 h2 _=>exact .nU M h1 (fun o H' hm=>let ⟨v,b,cs,a,c,d,e⟩:=h2 o H' hm;⟨v,b,cs,a,c,d,hq _ _ e⟩)
 | gW hg hx hb hs _ ih=>exact .gW hg hx hb hs fun t H' hm=>ih t H' hm hq
 | shr M h1 h2 _=>exact .shr M h1 (fun o H' hm=>let ⟨v,b,cs,k,a,c,d,e⟩:=h2 o H' hm;⟨v,b,cs,k,a,c,d,hq _ _ e⟩)
 | qe i hi hb _ ih=>exact .qe i hi hb (ih hq)
 | zz hk hb _ ih=>exact .zz hk hb (ih hq)
 | vw hl hv _ ih=>exact .vw hl hv (ih hq)
 | za hg ht hb hlen h0 he hs _ ih=>exact .za hg ht hb hlen h0 he hs (ih hq)
 | gj h=>exact .gj (E.mono _ _ _ _ _ h fun t H' hm=>hq _ _ hm)
def Ei (v:T)(H:aa):Out→aa→Prop:=fun o H'=>o=.val v∧H'=H
theorem oF (v v':T)(H H':aa):Ei v H (.val v') H'=(v'=v∧H'=H):=by simp[Ei]
theorem oG (a b:T)(l:List T):dm (a :: b :: l) 1=b:=rfl
theorem oH (a b c:T)(l:List T):dm (a :: b :: c :: l) 2=c:=rfl
theorem oI (a b c d:T)(l:List T):dm (a :: b :: c :: d :: l) 3=d:=rfl
theorem oJ (a b c d e:T)(l:List T):dm (a :: b :: c :: d :: e :: l) 4=e:=rfl
def vV (v:T)(H:aa):Out→aa→Prop:=fun o H'=>o=.val v∧∃l,H'=H++l
theorem mh (v v':T)(H l:aa):vV v H (.val v') (H++l)=(v'=v):=by simp[vV]
theorem jZ (v v':T)(H:aa):vV v H (.val v') H=(v'=v):=by
 simp only[vV,Out.val.injEq,eq_iff_iff]
 exact⟨fun h=>h.1,fun h=>⟨h,[],by simp⟩⟩
theorem cT (k:IntKind)(n:Nat):aR (.int k (n:Int))=some n:=by simp[aR]
theorem wrap64 {n:Int}(h:-9223372036854775808≤n∧n<9223372036854775808):IntKind.i64.wrap n=n:=by
 unfold IntKind.wrap
 simp only[IntKind.signed,IntKind.bits]
 simp
 omega
theorem eZ {i:Nat}(h:i<9223372036854775807):IntKind.i64.wrap ((i:Int)+1)=((i+1:Nat):Int):=by rw[wrap64 (by omega)];simp
theorem Ap (v:T):valOf false [v]=some v:=rfl
theorem Aq (cs:List T):valOf true cs=some (.agg cs):=rfl
theorem B7 (a b:Nat):decide ((a:Int)<(b:Int))=decide (a<b):=by simp
theorem B8 (a b:Nat):decide ((a:Int)≤(b:Int))=decide (a≤b):=by simp
theorem B9 (a b:Nat):((a:Int)==(b:Int))=decide (a=b):=by rw[Bool.eq_iff_iff];simp;omega
theorem C3 (a b:Nat):((a:Int) != (b:Int))=!decide (a=b):=by rw[Bool.eq_iff_iff];simp;omega
theorem r4:∀(a:List UInt8),Op.bytesLess a a=false
 | []=>rfl
 | x :: a=>by simp[Op.bytesLess,r4 a]
theorem mi:∀(a b c:List UInt8),Op.bytesLess a b=true→Op.bytesLess b c=true→Op.bytesLess a c=true
 | _,[],_,h,_=>by cases ‹List UInt8›<;>simp[Op.bytesLess]at h
 | _,_ :: _,[],_,h=>by simp[Op.bytesLess]at h
 | [],_ :: _,_ :: _,_,_=>rfl
 | x :: a,y :: b,z :: c,h1,h2=>by
  simp only[Op.bytesLess,Bool.or_eq_true,decide_eq_true_eq,Bool.and_eq_true,beq_iff_eq]at h1 h2 ⊢
  rcases h1 with h1|⟨rfl,h1⟩
  ·rcases h2 with h2|⟨rfl,h2⟩
   ·exact .inl (UInt8.lt_trans h1 h2)
   ·exact .inl h1
  ·rcases h2 with h2|⟨rfl,h2⟩
   ·exact .inl h2
   ·exact .inr ⟨rfl,mi a b c h1 h2⟩
theorem r5:∀(a b:List UInt8),Op.bytesLess a b=false→Op.bytesLess b a=false→a=b
 | [],[],_,_=>rfl
 | [],_ :: _,h,_=>by simp[Op.bytesLess]at h
 | _ :: _,[],_,h=>by simp[Op.bytesLess]at h
 | x :: a,y :: b,h1,h2=>by
  simp only[Op.bytesLess,Bool.or_eq_false_iff,decide_eq_false_iff_not,Bool.and_eq_false_iff,beq_eq_false_iff_ne]at h1 h2
  have e:x=y:=by
   have a1:=h1.1;have a2:=h2.1
   exact UInt8.le_antisymm (UInt8.not_lt.1 a2) (UInt8.not_lt.1 a1)
  subst e
  rw[r5 a b (h1.2.resolve_left (fun h=>h rfl)) (h2.2.resolve_left (fun h=>h rfl))]
theorem toList_inj {a b:ByteArray}(h:a.toList=b.toList):a=b:=by
 have e:∀c:ByteArray,c.toList=c.data.toList:=fun c=>Go.ByteArray.toList_eq c
 rw[e,e]at h
 cases a;cases b
 simp only[ByteArray.mk.injEq]
 exact Array.toList_inj.1 h
theorem b6 (a b:ByteArray):dj a b=decide (a=b):=by
 unfold dj
 rw[Bool.eq_iff_iff]
 simp only[beq_iff_eq,decide_eq_true_eq]
 exact⟨toList_inj,fun h=>by rw[h]⟩
theorem r6 (a:ByteArray):strLt a a=false:=r4 _
theorem pP {a b c:ByteArray}(h1:strLt a b=true)(h2:strLt b c=true):strLt a c=true:=mi _ _ _ h1 h2
theorem yu {a b:ByteArray}(h1:strLt a b=false)(h2:strLt b a=false):a=b:=toList_inj (r5 _ _ h1 h2)
theorem lt_asymm {a b:ByteArray}(h:strLt a b=true):strLt b a=false:=by
 cases e:strLt b a with
 | false=>rfl
 | true=>have:=pP h e;rw[r6]at this;cases this
theorem not_le (a b:ByteArray):(!(strLt b a||dj b a))=strLt a b:=by
 cases h:strLt a b with
 | true =>
  have h1:=lt_asymm h
  have h2:dj b a=false:=by rw[b6];simp;rintro rfl;rw[r6]at h;cases h
  simp[h1,h2]
 | false =>
  cases h1:strLt b a with
  | true=>simp
  | false=>have:=yu h h1;subst this;simp[b6]
def Ext (H H':aa):Prop:=∃m,H'=H++m
theorem Ext.rfl' {H:aa}:Ext H H:=⟨[],by simp⟩
theorem Ext.trans {H H' zD:aa}(h:Ext H H')(h':Ext H' zD):Ext H zD:=by
 obtain⟨a,rfl⟩:=h;obtain⟨b,rfl⟩:=h';exact⟨a++b,by simp⟩
def yv (n off:Nat):Option B→Option (List T)
 | some (.cells cs)=>if off+n≤cs.length then some ((cs.drop off).take n)else none
 | some (.fz cs)=>if off+n≤cs.length then some ((cs.drop off).take n)else none
 | _=>none
theorem oK (H:aa)(n b off:Nat):gM H n (.ptr b off)=yv n off H[b]?:=by
 simp only[gM,yv];rfl
theorem mj (H:aa)(n:Nat)(cs:List T):gM H n (.cq cs)=if n≤cs.length then some (cs.take n)else none:=rfl
theorem r7 (n off:Nat)(cs:List T):yv n off (some (.cells cs))=if off+n≤cs.length then some ((cs.drop off).take n)else none:=rfl
def yw (H:aa)(b:Nat)(vs:List T)(off:Nat):Option B→Option aa
 | some (.cells cs)=>if off+vs.length≤cs.length then some (H.set b (.cells (cs.take off++vs++cs.drop (off+vs.length))))else none
 | _=>none
theorem oL (H:aa)(vs:List T)(b off:Nat):ud H vs (.ptr b off)=yw H b vs off H[b]?:=by
 simp only[ud,yw];rfl
theorem r8 (H:aa)(b:Nat)(vs:List T)(off:Nat)(cs:List T):yw H b vs off (some (.cells cs))=if off+vs.length≤cs.length then some (H.set b (.cells (cs.take off++vs++cs.drop (off+vs.length))))else none:=rfl
theorem oM (off b o:Nat):kv off (.ptr b o)=some (.ptr b (o+off)):=rfl
def r9 (id:Nat)(P:ah→aa→Prop)(Q:Out→aa→Prop):Out→aa→Prop
 | .ex (.exit i) R,H=>if i=id then P R H else Q (.ex (.exit i) R) H
 | o,H=>Q o H
theorem Ar (id:Nat)(P:ah→aa→Prop)(Q:Out→aa→Prop)(R:ah)(H:aa):r9 id P Q (.ex .normal R) H=Q (.ex .normal R) H:=rfl
theorem As (id:Nat)(P:ah→aa→Prop)(Q:Out→aa→Prop)(R:ah)(H:aa):r9 id P Q (.ex .ret R) H=Q (.ex .ret R) H:=rfl
theorem Au (id i:Nat)(P:ah→aa→Prop)(Q:Out→aa→Prop)(R:ah)(H:aa):r9 id P Q (.ex (.exit i) R) H=if i=id then P R H else Q (.ex (.exit i) R) H:=rfl
def iX {α β:Type}[DecidableEq α](es:List (α×β))(k:α):Option β:=(es.find? fun e=>decide (k=e.1)).map (·.2)
def vW {α β:Type}[DecidableEq α](es:List (α×β))(k:α)(v:β):List (α×β) :=
 match es.findIdx? fun e=>decide (k=e.1)with
 | some i=>es.set i (k,v)
 | none=>es++[(k,v)]
section
variable {α β:Type} [DecidableEq α]
theorem nK (e:α×β)(es:List (α×β))(k:α):iX (e :: es) k=if k=e.1 then some e.2 else iX es k:=by
 unfold iX;rw[List.find?_cons];by_cases h:k=e.1<;>simp[h]
theorem pQ (es:List (α×β))(k:α):iX es k=match es.findIdx? fun e=>decide (k=e.1)with
  | some i=>(es[i]?).map (·.2)
  | none=>none:=by
 induction es with
 | nil=>rfl
 | cons e es ih =>
  rw[nK,List.findIdx?_cons]
  by_cases h:k=e.1
  ·simp[h]
  ·simp only[h,if_false,decide_false,Bool.false_eq_true,ih]
   cases List.findIdx? (fun e=>decide (k=e.1)) es<;>simp
theorem sa {es:List (α×β)}{k:α}{i:Nat}(h:(es.findIdx? fun e=>decide (k=e.1))=some i):∃v,es[i]?=some (k,v):=by
 rw[List.findIdx?_eq_some_iff_getElem]at h
 obtain⟨hi,h,-⟩:=h
 refine⟨es[i].2,?_⟩
 rw[List.getElem?_eq_getElem hi]
 simp only[decide_eq_true_eq]at h
 rw[h]
end
def fG {α:Type}(ek:α→T)(es:List (α×T)):List (T×T):=es.map fun e=>(ek e.1,e.2)
structure ml {α:Type}[DecidableEq α](kt:KT)(ek:α→T):Prop where
 has:∀a,(ek a).dt kt=true
 eq:∀a b,dk (ek a) (ek b)=some (decide (a=b))
section
variable {α:Type} [DecidableEq α] {kt:KT} {ek:α→T}
theorem nL (ho:ml kt ek)(k:α):∀es:List (α×T),bg (ek k) (fG ek es)=some (es.findIdx? fun e=>decide (k=e.1))
 | []=>rfl
 | e :: es=>by
  have ih:=nL ho k es
  simp only[fG]at ih ⊢
  simp only[List.map_cons,bg,ho.eq,List.findIdx?_cons]
  cases h:decide (k=e.1)
  ·simp[ih]
  ·simp
def mm (o:Option T)(z:T)(ok:Bool):T:=match o with
 | some v=>if ok then .bl [v,.bool true]else v
 | none=>if ok then .bl [z,.bool false]else z
def nN (kt:KT)(z:T)(ok:Bool)(H:aa)(mb:Option B)(k:T):Option (T×aa):=match mb with
 | some (.map es)=>if k.dt kt then match bg k es with
  | some (some i)=>match es[i]? with
   | some e=>some (if ok then .bl [e.2,.bool true]else e.2,H)
   | none=>none
  | some none=>some (if ok then .bl [z,.bool false]else z,H)
  | none=>none else none
 | some (.cr es _ _ _)=>if k.dt kt then match bg k es with
  | some (some i)=>match es[i]? with
   | some e=>some (if ok then .bl [e.2,.bool true]else e.2,H)
   | none=>none
  | some none=>some (if ok then .bl [z,.bool false]else z,H)
  | none=>none else none
 | _=>none
def yx (kt:KT)(z:T)(ok:Bool)(H:aa)(m k:T):Option (T×aa):=match m with
 | .map b=>nN kt z ok H H[b]? k
 | .bL=>if k.dt kt then some (if ok then .bl [z,.bool false]else z,H)else none
 | _=>none
theorem sb (R:ah)(H:aa)(kt:KT)(z:T)(ok:Bool)(m k:X):ae R H (.p4 kt z ok m k)=yx kt z ok H (m.ev R) (k.ev R):=by
 unfold yx nN
 simp only[ae]
 cases h1:(k.ev R).dt kt
 ·simp only[Bool.false_eq_true,if_false]
  cases m.ev R with
  | map b=>simp only;split<;>rfl
  | _=>rfl
 ·simp only[if_true]
  cases m.ev R with
  | map b =>
   simp only[ct]
   cases H[b]? with
   | none=>rfl
   | some x=>cases x<;>rfl
  | bL=>simp only[ct,bg]
  | _=>rfl
theorem mo (kt:KT)(z:T)(ok:Bool)(H:aa)(b:Nat)(k:T):yx kt z ok H (.map b) k=nN kt z ok H H[b]? k:=rfl
theorem sd (ho:ml kt ek)(z:T)(ok:Bool)(H:aa)(es:List (α×T))(s:α):nN kt z ok H (some (.map (fG ek es))) (ek s)=some (mm (iX es s) z ok,H):=by
 simp only[nN,ho.has,nL ho,if_true,pQ]
 cases h:List.findIdx? (fun e=>decide (s=e.1)) es with
 | none=>cases ok<;>rfl
 | some i =>
  obtain⟨v,hv⟩:=sa h
  have:(fG ek es)[i]?=some (ek s,v):=by simp[fG,hv]
  simp only[this,hv,mm,Option.map_some]
def nO (kt:KT)(H:aa)(b:Nat)(mb:Option B)(k v:T):Option (T×aa):=match mb with
 | some (.map es)=>if k.dt kt then match bg k es with
  | some (some i)=>some (ar,H.set b (.map (es.set i (k,v))))
  | some none=>some (ar,H.set b (.map (es++[(k,v)])))
  | none=>none else none
 | _=>none
def yz (kt:KT)(H:aa)(m k v:T):Option (T×aa):=match m with
 | .map b=>nO kt H b H[b]? k v
 | _=>none
theorem sf (R:ah)(H:aa)(kt:KT)(m k v:X):ae R H (.wq kt m k v)=yz kt H (m.ev R) (k.ev R) (v.ev R):=by
 unfold yz nO
 simp only[ae]
 cases m.ev R with
 | map b =>
  simp only
  cases h1:(k.ev R).dt kt
  ·simp only[Bool.false_eq_true,if_false];split<;>rfl
  ·simp only[if_true]
   cases H[b]? with
   | none=>rfl
   | some x=>cases x<;>rfl
 | _=>rfl
def yA (kt:KT)(H:aa)(b:Nat)(mb:Option B)(k:T):Option (T×aa):=match mb with
 | some (.map es)=>if k.dt kt then match bg k es with
  | some (some i)=>some (.bl [],H.set b (.map (es.eraseIdx i)))
  | some none=>some (.bl [],H)
  | none=>none else none
 | _=>none
def yB (kt:KT)(H:aa)(m k:T):Option (T×aa):=match m with
 | .map b=>yA kt H b H[b]? k
 | _=>none
theorem sg (R:ah)(H:aa)(kt:KT)(m k:X):ae R H (.del kt m k)=yB kt H (m.ev R) (k.ev R):=by
 unfold yB yA
 simp only[ae]
 cases m.ev R with
 | map b =>
  simp only
  cases h1:(k.ev R).dt kt
  ·simp only[Bool.false_eq_true,if_false];split<;>rfl
  ·simp only[if_true]
   cases H[b]? with
   | none=>rfl
   | some x=>cases x<;>rfl
 | _=>rfl
theorem mq (kt:KT)(H:aa)(b:Nat)(k:T):yB kt H (.map b) k=yA kt H b H[b]? k:=rfl
def yC (H:aa)(b:Nat):Option B→Option (T×aa)
 | some (.map es)=>some (.ptr H.length 0,H.set b (.cr es (List.range es.length) H.length none)++[.pV b])
 | some (.cr es _ _ _)=>some (.ptr H.length 0,H.set b (.cr es (List.range es.length) H.length none)++[.pV b])
 | _=>none
def yD (H:aa):T→Option (T×aa)
 | .map b=>yC H b H[b]?
 | _=>none
theorem sh (R:ah)(H:aa)(x:X):ae R H (.yX x)=yD H (x.ev R):=by
 simp only[ae]
 cases x.ev R with
 | map b =>
  simp only[ct,yD]
  cases H[b]? with
  | none=>rfl
  | some y=>cases y<;>rfl
 | _=>rfl
theorem mr (H:aa)(b:Nat):yD H (.map b)=yC H b H[b]?:=rfl
theorem si (H:aa)(b:Nat)(es:List (T×T)):yC H b (some (.map es))=some (.ptr H.length 0,H.set b (.cr es (List.range es.length) H.length none)++[.pV b]):=rfl
theorem sj (R:ah)(H:aa)(x:X):ae R H (.gW x)=none:=rfl
def vX (H:aa)(bi:Nat):Option B→Option (T×aa)
 | some (.cr es _ wv (some c))=>if wv=bi then(es[c]?).map fun e=>(.bl [e.1,e.2],H)else none
 | _=>none
def vY (H:aa)(bi:Nat):Option B→Option (T×aa)
 | some (.pV b)=>vX H bi H[b]?
 | _=>none
def yE (H:aa):T→Option (T×aa)
 | .ptr bi 0=>vY H bi H[bi]?
 | _=>none
theorem sk (R:ah)(H:aa)(x:X):ae R H (.yY x)=yE H (x.ev R):=by
 simp only[ae]
 cases x.ev R with
 | ptr bi o =>
  cases o with
  | zero =>
   simp only[yE]
   cases H[bi]? with
   | none=>rfl
   | some y=>cases y with
    | pV b =>
     simp only[vY]
     cases H[b]? with
     | none=>rfl
     | some z=>cases z with
      | cr es ix wv cur=>cases cur<;>rfl
      | _=>rfl
    | _=>rfl
  | succ _=>rfl
 | _=>rfl
theorem mw (H:aa)(bi:Nat):yE H (.ptr bi 0)=vY H bi H[bi]?:=rfl
theorem sm (H:aa)(bi b:Nat):vY H bi (some (.pV b))=vX H bi H[b]?:=rfl
theorem sn (H:aa)(bi:Nat)(es:List (T×T))(ix:List Nat)(c:Nat):vX H bi (some (.cr es ix bi (some c)))=(es[c]?).map fun e=>(.bl [e.1,e.2],H):=by simp only[vX,if_true]
def Av (H:aa)(b off len n n':Nat)(z:List T):Option B→Option (T×aa)
 | some (.cells cs)=>if n'=n∧z.length=n∧off+len*n≤cs.length then some (ar,H.set b (.cells (cs.take off++(List.replicate len z).flatten++cs.drop (off+len*n))))else none
 | _=>none
def yF (H:aa)(n:Nat)(z:List T):T→Option (T×aa)
 | .aO b off len n'=>Av H b off len n n' z H[b]?
 | _=>none
theorem su (R:ah)(H:aa)(n:Nat)(z:List T)(x:X):ae R H (.zy n z x)=yF H n z (x.ev R):=by
 simp only[ae]
 cases x.ev R with
 | aO b off len n' =>
  simp only[yF]
  cases H[b]? with
  | none=>rfl
  | some y=>cases y<;>rfl
 | _=>rfl
theorem my (H:aa)(n:Nat)(z:List T)(b off len n':Nat):yF H n z (.aO b off len n')=Av H b off len n n' z H[b]?:=rfl
theorem mz (kt:KT)(H:aa)(b:Nat)(k v:T):yz kt H (.map b) k v=nO kt H b H[b]? k v:=rfl
theorem sv (ho:ml kt ek)(H:aa)(b:Nat)(es:List (α×T))(s:α)(v:T):nO kt H b (some (.map (fG ek es))) (ek s) v=some (ar,H.set b (.map (fG ek (vW es s v)))):=by
 simp only[nO,ho.has,nL ho,if_true,vW]
 cases h:List.findIdx? (fun e=>decide (s=e.1)) es with
 | none=>simp[fG]
 | some i=>simp[fG]
end
theorem Aw:ml (.sc .str) T.str:=⟨fun _=>rfl,fun a b=>by simp only[dk,du,b6]⟩
def kU (n:Nat):T:=.int .u64 n
theorem Ax:ml (.sc .int) kU:=⟨fun _=>rfl,fun a b=>by simp only[kU,dk,du,if_true,B9]⟩
theorem sw (z:T)(ok:Bool)(H:aa)(es:List (ByteArray×T))(s:ByteArray):nN (.sc .str) z ok H (some (.map (fG T.str es))) (.str s)=some (mm (iX es s) z ok,H):=sd Aw z ok H es s
theorem sx (z:T)(ok:Bool)(H:aa)(es:List (Nat×T))(s:Nat):nN (.sc .int) z ok H (some (.map (fG kU es))) (.int .u64 s)=some (mm (iX es s) z ok,H):=sd Ax z ok H es s
theorem sy (H:aa)(b:Nat)(es:List (ByteArray×T))(s:ByteArray)(v:T):nO (.sc .str) H b (some (.map (fG T.str es))) (.str s) v=some (ar,H.set b (.map (fG T.str (vW es s v)))):=sv Aw H b es s v
theorem sz (H:aa)(b:Nat)(es:List (Nat×T))(s:Nat)(v:T):nO (.sc .int) H b (some (.map (fG kU es))) (.int .u64 s) v=some (ar,H.set b (.map (fG kU (vW es s v)))):=sv Ax H b es s v
theorem mA (v z:T):mm (some v) z false=v:=rfl
theorem mB (z:T):mm none z false=z:=rfl
theorem ka (v z:T):mm (some v) z true=.bl [v,.bool true]:=rfl
theorem kb (z:T):mm none z true=.bl [z,.bool false]:=rfl
end Go.Rmp
end
