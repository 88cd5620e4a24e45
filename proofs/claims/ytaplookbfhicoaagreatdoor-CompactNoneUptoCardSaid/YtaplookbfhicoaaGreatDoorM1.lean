/- Part of a proof of a law of this seat: the machine of plain values, its simulation, and the contracts of the functions that the law reaches. Conditions: none beyond the given row. -/
import Derived.Test.YtaplookbfhicoaaGreatDoorM0
import Derived.Laws.IdiomStrings
import Derived.RangeFuncRecord
import Derived.RangeFuncIn
import Derived.OpenShut
import Derived.RowKit3
import Derived.ChangeSame
import Derived.ReadAgain
import Derived.ChangeCalls
import Derived.Deep.Frames
import Derived.Laws.Strings
open Int renaming reduceLT → q6, reduceLE → q7, reduceBEq → q8, reduceBNe → q9, reduceEq → y1
open Nat renaming reduceAdd → y2, reduceLeDiff → y3, reduceLT → y4, reduceEqDiff → y5
set_option linter.unusedSimpArgs false
set_option linter.unusedVariables false
set_option linter.unnecessarySimpa false
set_option maxHeartbeats 4000000
section
namespace Go.Rmp
section
variable {P:Program} {w0 w:World} {g:Ctx} {H H':aa} {R:ai} {ρ:Operand→Value} {t:T}
theorem uQ {op:BinOp}{ty:TypeId}{ox oy:Operand}{x y:X}{b:Bo}(hc:qy P op ty x y=some b)(h:SR w0 g H w)(hx:VR g w (x.ev R) (ρ ox))(hy:VR g w (y.ev R) (ρ oy))(he:ae R H b=some (t,H')) :
  tC P w0 g H w (do pure (Next.value (←(do eqGuard op ty ox oy (ρ ox) (ρ oy);binOp op ty (ρ ox) (ρ oy))))) t H':=by
 refine aI.fu ?_
 unfold qy at hc
 cases hu:P.underlying ty with
 | none=>simp[hu]at hc
 | some d =>
  rw[hu]at hc
  have heq:∀n,isEq op=some n→op=if n then .neq else .eql:=by
   intro n hn;cases op<;>simp[isEq]at hn<;>subst hn<;>rfl
  have bin:b=.bin op x y→aI P w0 g H w (do eqGuard op ty ox oy (ρ ox) (ρ oy);binOp op ty (ρ ox) (ρ oy)) t H':=by
   rintro rfl
   simp only[ae,Option.map_eq_some_iff,Prod.mk.injEq]at he
   obtain⟨t',h1,rfl,rfl⟩:=he
   exact tT h hx hy h1
  have ref:(∃n c,isEq op=some n∧cls d=some c∧b=.eM n c x y)→aI P w0 g H w (do eqGuard op ty ox oy (ρ ox) (ρ oy);binOp op ty (ρ ox) (ρ oy)) t H':=by
   rintro⟨n,c,h1,h2,rfl⟩
   simp only[ae,Option.map_eq_some_iff,Prod.mk.injEq]at he
   obtain⟨r,h3,rfl,rfl⟩:=he
   rw[heq n h1]
   exact tV hu (by cases d<;>simp[cls]at h2<;>subst h2<;>rfl) h hx hy h3
  have gv:(match isEq op,cls d with|some n,some c=>some (Bo.eM n c x y)|_,_=>none)=some b→(∃n c,isEq op=some n∧cls d=some c∧b=.eM n c x y):=by
   intro hh
   cases h1:isEq op with
   | none=>simp[h1]at hh
   | some n =>
    cases h2:cls d with
    | none=>simp[h1,h2]at hh
    | some c=>simp[h1,h2]at hh;exact⟨n,c,rfl,rfl,hh.symm⟩
  cases d with
  | int k=>simp at hc;exact bin hc.symm
  | string=>simp at hc;exact bin hc.symm
  | bool =>
   simp only[Option.map_eq_some_iff]at hc
   obtain⟨n,h1,rfl⟩:=hc
   simp only[ae]at he
   rw[heq n h1]
   generalize x.ev R=tx at hx he
   generalize y.ev R=xY at hy he
   cases tx<;>cases xY<;>simp at he
   obtain⟨rfl,rfl⟩:=he
   exact tU hu h hx hy
  | struct fs =>
   cases h1:isEq op with
   | none=>simp[h1]at hc
   | some n =>
    cases h2:kinds P fs.toList with
    | none=>simp[h1,h2]at hc
    | some ks =>
     simp only[h1,h2]at hc
     split at hc
     ·rename_i aB
      simp only[Bool.and_eq_true,Bool.not_eq_true']at aB
      simp at hc;subst hc
      simp only[ae]at he
      rw[heq n h1]
      generalize x.ev R=tx at hx he
      generalize y.ev R=xY at hy he
      cases tx<;>cases xY<;>(try simp only[reduceCtorEq]at he)
      split at he
      ·rename_i hk
       simp only[Option.map_eq_some_iff,Prod.mk.injEq]at he
       obtain⟨r,h3,rfl,rfl⟩:=he
       exact tW hu aB.1.1 aB.1.2 aB.2 h hx hy hk h3
      ·cases he
     ·cases hc
  | pointer _=>exact ref (gv hc)
  | slice _=>exact ref (gv hc)
  | map _ _=>exact ref (gv hc)
  | func _ _ _=>exact ref (gv hc)
  | invalid=>exact ref (gv hc)
  | float _=>exact ref (gv hc)
  | complex _=>exact ref (gv hc)
  | unsafePointer=>exact ref (gv hc)
  | array _ _=>exact ref (gv hc)
  | chan _ _=>exact ref (gv hc)
  | interface _=>exact ref (gv hc)
  | tuple _=>exact ref (gv hc)
  | named _ _=>exact ref (gv hc)
theorem qA {ty:TypeId}{v:Value}{x:X}{b:Bo}(hc:jC P ty x=some b)(h:SR w0 g H w)(hx:VR g w (x.ev R) v)(he:ae R H b=some (t,H')):tC P w0 g H w (do pure (Next.value (←Instr.loadAt ty v))) t H':=by
 refine aI.fu ?_
 unfold jC at hc
 cases hu:P.underlying ty with
 | none=>simp[hu]at hc
 | some d =>
  cases hi:P.info? ty with
  | none=>simp[hu,hi]at hc
  | some i =>
   simp only[hu,hi,Option.some.injEq]at hc
   subst hc
   simp only[ae]at he
   cases hl:gG H (if bC d then i.size else 1) (x.ev R)with
   | none=>simp[hl]at he
   | some cs =>
    simp only[hl,Option.map_eq_some_iff,Prod.mk.injEq]at he
    obtain⟨t',h1,rfl,rfl⟩:=he
    exact xy hu hi rfl (fun e=>by rw[if_pos e]) h hx hl h1
theorem jE {ty:TypeId}{v:Value}{x:X}{f:Nat}{ad:Bool}{b:Bo}(hc:ft P ty x f ad=some b)(h:SR w0 g H w)(hx:VR g w (x.ev R) v)(he:ae R H b=some (t,H')) :
  aI P w0 g H w (if ad then Instr.fieldAt ty v f else Instr.field ty v f) t H':=by
 unfold ft at hc
 cases hu:P.underlying ty with
 | none=>simp[hu]at hc
 | some d =>
  cases d<;>simp only[hu]at hc<;>(try (cases hc;done))
  rename_i fs
  cases hf:fs[f]? with
  | none=>simp[hf]at hc
  | some fl =>
   simp only[hf]at hc
   cases hd:P.underlying fl.type with
   | none=>simp[hd]at hc
   | some d =>
    cases hi:P.info? fl.type with
    | none=>simp[hd,hi]at hc
    | some i =>
     simp only[hd,hi]at hc
     cases ad with
     | true =>
      simp only[if_true]at hc
      split at hc
      ·cases hc
      ·rename_i hz
       simp at hc;subst hc
       simp only[ae]at he
       simp only[Option.map_eq_some_iff,Prod.mk.injEq]at he
       obtain⟨t',h1,rfl,rfl⟩:=he
       exact ub hu hf hi hz h hx h1
     | false =>
      simp only[Bool.false_eq_true,if_false,Option.some.injEq]at hc
      subst hc
      simp only[ae]at he
      generalize x.ev R=tx at hx he
      cases tx<;>(try simp only[reduceCtorEq]at he)
      rename_i cs
      split at he
      ·rename_i hle
       simp only[Option.map_eq_some_iff,Prod.mk.injEq]at he
       obtain⟨t',h1,rfl,rfl⟩:=he
       exact uc hu hf hd hi rfl h hx hle h1
      ·cases he
theorem nT {ty:TypeId}{v vi:Value}{x i:X}{ad:Bool}{b:Bo}(hc:m6 P ty x i ad=some b)(h:SR w0 g H w)(hx:VR g w (x.ev R) v)(hi:VR g w (i.ev R) vi)(he:ae R H b=some (t,H')) :
  aI P w0 g H w (if ad then Instr.indexAt ty v vi else Instr.index ty v vi) t H':=by
 unfold m6 at hc
 cases hu:P.underlying ty with
 | none=>simp[hu]at hc
 | some d =>
  cases d<;>cases ad<;>simp only[hu]at hc<;>(try (cases hc;done))
  ·-- string
   simp at hc;subst hc
   simp only[ae]at he
   generalize x.ev R=tx at hx he
   cases tx<;>(try simp only[reduceCtorEq]at he)
   cases hn:aR (i.ev R)with
   | none=>simp[hn]at he
   | some n =>
    simp only[hn,Option.map_eq_some_iff,Prod.mk.injEq]at he
    obtain⟨c,h1,rfl,rfl⟩:=he
    exact uf hu h hx hi hn h1
  ·-- slice
   rename_i e
   cases gS:P.info? e with
   | none=>simp[gS]at hc
   | some ei =>
    simp[gS]at hc;subst hc
    simp only[ae]at he
    simp only[Option.bind_eq_some_iff,Option.map_eq_some_iff,Prod.mk.injEq]at he
    obtain⟨n,h1,t',h2,rfl,rfl⟩:=he
    exact ud hu gS h hx hi h1 h2
  ·-- uR value
   rename_i n e
   cases gS:P.info? e with
   | none=>simp[gS]at hc
   | some ei =>
    cases xZ:P.underlying e with
    | none=>simp[gS,xZ]at hc
    | some d =>
     simp[gS,xZ]at hc;subst hc
     simp only[ae]at he
     generalize x.ev R=tx at hx he
     cases tx<;>(try simp only[reduceCtorEq]at he)
     cases hn:aR (i.ev R)with
     | none=>simp[hn]at he
     | some m =>
      simp only[hn]at he
      split at he
      ·rename_i cN
       simp only[Option.map_eq_some_iff,Prod.mk.injEq]at he
       obtain⟨t',h1,rfl,rfl⟩:=he
       exact ug hu xZ gS rfl h hx hi hn cN.1 cN.2 h1
      ·cases he
  ·-- uR address
   rename_i n e
   cases gS:P.info? e with
   | none=>simp[gS]at hc
   | some ei =>
    simp[gS]at hc;subst hc
    simp only[ae]at he
    generalize x.ev R=tx at hx he
    cases tx<;>(try simp only[reduceCtorEq]at he)
    cases hn:aR (i.ev R)with
    | none=>simp[hn]at he
    | some m =>
     simp only[hn]at he
     split at he
     ·rename_i aD
      simp at he
      obtain⟨rfl,rfl⟩:=he
      exact ue hu gS h hx hi hn aD
     ·cases he
theorem cR {x:Option Operand}{y:Option X}(h:dV x=some y)(hv:RV g w R ρ x.toList):OV g w R y (x.map ρ):=by
 cases x with
 | none=>simp[dV]at h;subst h;trivial
 | some x =>
  simp only[dV,Option.map_eq_some_iff]at h
  obtain⟨y',h1,rfl⟩:=h
  exact hv x (by simp) y' h1
theorem uS {ty:TypeId}{v:Value}{x:X}{lo hi mx:Option X}{dK ec qB:Option Value}{b:Bo}(hc:o9 P ty x lo hi mx=some b)(h:SR w0 g H w)(hx:VR g w (x.ev R) v)(uj:OV g w R lo dK)(uT:OV g w R hi ec)(wj:OV g w R mx qB)
  (he:ae R H b=some (t,H')):tC P w0 g H w (do pure (Next.value (←Instr.sliceAt ty v dK ec qB))) t H':=by
 refine aI.fu ?_
 unfold o9 at hc
 split at hc
 ·rename_i e IC hu
  cases gS:P.info? e with
  | none=>simp[gS]at hc
  | some ei =>
   simp only[gS,Option.map_some,Option.some.injEq]at hc
   subst hc
   cases dK with
   | some _=>exact uj.elim
   | none=>cases qB with
    | some _=>exact wj.elim
    | none=>cases ec with
     | none=>exact uT.elim
     | some vh =>
      simp only[ae]at he
      generalize x.ev R=tx at hx he
      split at he
      ·rename_i bb off len n' hh C9
       split at he
       ·rename_i cN
        obtain⟨rfl,h1,h2,h3⟩:=cN
        simp only[Option.some.injEq,Prod.mk.injEq]at he
        obtain⟨rfl,rfl⟩:=he
        exact uk hu gS h hx uT C9 h1 h2 h3
       ·cases he
      ·cases he
 ·cases hc
theorem pc {ty:TypeId}{v:Value}{x:X}{lo hi mx:Option X}{dK ec qB:Option Value}{b:Bo}(hc:gp P ty x lo hi mx=some b)(h:SR w0 g H w)(hx:VR g w (x.ev R) v)(uj:OV g w R lo dK)(uT:OV g w R hi ec)(wj:OV g w R mx qB)
  (he:ae R H b=some (t,H')):tC P w0 g H w (do pure (Next.value (←Instr.sliceAt ty v dK ec qB))) t H':=by
 refine aI.fu ?_
 unfold gp at hc
 cases hu:P.underlying ty with
 | none=>simp[hu]at hc
 | some d =>
  cases d<;>simp only[hu]at hc<;>(try (cases hc;done))
  ·-- string
   cases mx with
   | some _=>simp at hc
   | none =>
    cases qB with
    | some _=>exact wj.elim
    | none =>
     simp at hc;subst hc
     simp only[ae]at he
     generalize x.ev R=tx at hx he
     cases tx<;>(try simp only[reduceCtorEq]at he)
     rename_i s
     cases hl:cU R 0 lo with
     | none=>simp[hl]at he
     | some l =>
      cases hh:cU R s.size hi with
      | none=>simp[hl,hh]at he
      | some r =>
       simp only[hl,hh]at he
       split at he
       ·rename_i cN
        simp at he
        obtain⟨rfl,rfl⟩:=he
        exact uh hu h hx uj uT hl hh cN.1 cN.2
       ·cases he
  ·-- slice
   rename_i e
   cases gS:P.info? e with
   | none=>simp[gS]at hc
   | some ei =>
    simp only[gS]at hc
    split at hc
    ·cases hc
    ·rename_i Gl
     simp at hc;subst hc
     simp only[ae]at he
     generalize x.ev R=tx at hx he
     cases tx<;>(try simp only[reduceCtorEq]at he)
     ·rename_i k es
      cases hl:cU R 0 lo with
      | none=>simp[hl]at he
      | some l =>
       cases hh:cU R es.length hi with
       | none=>simp[hl,hh]at he
       | some r =>
        simp only[hl,hh]at he
        cases mx with
        | none =>
         cases qB with
         | some _=>exact wj.elim
         | none =>
          simp only at he
          split at he
          ·rename_i cN
           simp at he
           obtain⟨rfl,rfl⟩:=he
           exact ui hu gS h hx uj uT hl hh cN.1 cN.2.1 cN.2.2
          ·cases he
        | some m =>
         cases qB with
         | none=>exact wj.elim
         | some vm =>
          cases hi with
          | none=>simp at Gl
          | some hi =>
           cases ec with
           | none=>exact uT.elim
           | some vh =>
            simp only at he
            cases hm:aR (m.ev R)with
            | none=>simp[hm]at he
            | some m' =>
             simp only[hm]at he
             split at he
             ·rename_i cN
              simp only[Option.some.injEq,Prod.mk.injEq]at he
              obtain⟨rfl,rfl⟩:=he
              exact qe hu gS h hx uj uT wj hl hh hm cN.1 cN.2.1 cN.2.2.1 cN.2.2.2
             ·cases he
     ·rename_i bb off len n'
      cases hl:cU R 0 lo with
      | none=>simp[hl]at he
      | some l =>
       cases hh:cU R len hi with
       | none=>simp[hl,hh]at he
       | some r =>
        simp only[hl,hh]at he
        cases mx with
        | some _=>simp at he
        | none =>
         cases qB with
         | some _=>exact wj.elim
         | none =>
          simp only at he
          split at he
          ·rename_i cN
           obtain⟨rfl,h1,h2⟩:=cN
           simp only[Option.some.injEq,Prod.mk.injEq]at he
           obtain⟨rfl,rfl⟩:=he
           exact qf hu gS h hx uj uT hl hh h1 h2
          ·cases he
     ·rename_i bb off len n' cc
      cases hl:cU R 0 lo with
      | none=>simp[hl]at he
      | some l =>
       cases hh:cU R len hi with
       | none=>simp[hl,hh]at he
       | some r =>
        simp only[hl,hh]at he
        cases mx with
        | some _=>simp at he
        | none =>
         cases qB with
         | some _=>exact wj.elim
         | none =>
          simp only at he
          split at he
          ·rename_i cN
           obtain⟨rfl,h1,h2⟩:=cN
           simp only[Option.some.injEq,Prod.mk.injEq]at he
           obtain⟨rfl,rfl⟩:=he
           exact qg hu gS h hx uj uT hl hh h1 h2
          ·cases he
theorem uU {src dst e:TypeId}{s:ByteArray}(hs:P.underlying src=some .string)(hd:P.underlying dst=some (.slice e))(he:P.underlying e=some (.int .u8))(h:SR w0 g H w) :
  aI P w0 g H w (convert src dst (.string s)) (.sl .arg (s.data.toList.map fun c=>[.int .u8 c.toNat])) H:=by
 have aL:=run_bytes_of_string w src dst e s hs hd he
 have pO:=grownCap_ge w s.size 0 e
 generalize grownCap w s.size 0 e=cap at aL pO
 have gI:(s.data.toList.map fun c=>[T.int .u8 c.toNat]).flatten=s.data.toList.map fun c=>T.int .u8 c.toNat:=by
  generalize s.data.toList=l
  induction l with
  | nil=>rfl
  | cons c l ih=>simp only[List.map_cons,List.flatten_cons,ih];rfl
 have hlen:(s.data.toList.map fun c=>[T.int .u8 c.toNat]).length=s.size:=by rw[List.length_map,Array.length_toList];rfl
 obtain⟨le,sr,fr,cG⟩:=h.zu (c:=bytesRow s cap) (ty:=e) (fr:=((bytesRow s cap).size,(bytesRow s cap).size+1)) (Tr.drew w) rfl
 refine⟨_,_,_,aL,le,sr,?_,fr⟩
 have:=VR.gh (g:=g.row w.heap.size fun _=>.cG) (w:=w.drew.alloc (.cells (bytesRow s cap) e ((bytesRow s cap).size,(bytesRow s cap).size+1))) (k:=.arg) (es:=s.data.toList.map fun c=>[T.int .u8 c.toNat]) (r:=w.heap.size) (o:=0) (cap:=cap) (n:=1)
  (vs:=s.data.toList.map fun c=>Value.int .u8 c.toNat) (by intro c hc;obtain⟨b,_,rfl⟩:=List.mem_map.1 hc;rfl) (by
   rw[gI]
   refine⟨by simp,fun i t v a b=>?_⟩
   rw[List.getElem?_map]at a b
   cases hc:s.data.toList[i]? with
   | none=>rw[hc]at a;cases a
   | some c=>rw[hc]at a b;cases a;cases b;exact .int _ _)
  (by rw[gI];intro t ht;obtain⟨c,_,rfl⟩:=List.mem_map.1 ht;rfl) (by rw[hlen];exact pO) trivial (fun j v hj=>by
   rw[Nat.zero_add]
   refine cG j v ?_
   have aD:j<s.data.size:=by have:=(List.getElem?_eq_some_iff.1 hj).1;simpa using this
   unfold bytesRow
   rw[Array.getElem?_append_left (by simpa using aD)]
   rw[←hj];simp)
 rw[hlen]at this
 exact this
theorem iw (w:World)(a:Addr)(n r:Nat)(hr:r≠a.block):(w.freeze a n).heap[r]?=w.heap[r]?:=by
 unfold World.freeze
 split
 ·rfl
 ·simp only[Array.getElem?_modify]
  rw[if_neg (fun e=>hr e.symm)]
theorem pd (w:World)(a:Addr)(n:Nat){c:Array Value}{t:TypeId}(h:w.heap[a.block]?=some (.cells c t))(hn:n≠0):(w.freeze a n).heap[a.block]?=some (.cells c t (a.off,a.off+n)):=by
 unfold World.freeze
 rw[if_neg hn]
 simp only[Array.getElem?_modify,if_true,h]
 rfl
theorem lF (w:World)(a:Addr)(n r j:Nat){c:Array Value}{t:TypeId}(h:w.heap[a.block]?=some (.cells c t))(hn:n≠0):(w.freeze a n).cell? ⟨r,j,none⟩=w.cell? ⟨r,j,none⟩:=by
 unfold World.cell?
 by_cases hr:r=a.block
 ·subst hr
  simp only[pd w a n h hn,h]
 ·simp only[iw w a n r hr]
theorem uV {ty e:TypeId}{b len:Nat}{cs:List T}{v:Value}(hd:P.underlying ty=some (.slice e))(he:P.underlying e=some (.int .u8))(h:SR w0 g H w)(hv:VR g w (.aQ b 0 len 1) v)(hb:H[b]?=some (.lit cs))(hl:len=cs.length) :
  aI P w0 g H w (convert ty ty v) (.sl .arg (cs.map fun c=>[c])) (H.set b .dead):=by
 obtain⟨r,q,dR,h1,h2,c,t0,h3,h4,h5,h6⟩:=h.du b _ hb
 cases hv with
 | aQ hφ hc hq =>
 rename_i r1 o1 q1 cap
 rw[hφ]at dR;cases dR
 have fo:b<H.length:=(List.getElem?_eq_some_iff.1 hb).1
 have aL:(convert ty ty (.slice (some ⟨r,0+0,none⟩) len cap)).run P w=.ok (.slice (some ⟨r,0+0,none⟩) len cap) (w.freeze ⟨r,q,none⟩ 1):=by
  have x0:w.shape? r=some (t0,c.size):=by unfold World.shape?;rw[h3]
  simp[convert,run_underlying hd,run_underlying he,markStringish,Sem.run,shape,freeze,x0,h4]
 have cK:∀r' j,(w.freeze ⟨r,q,none⟩ 1).cell? ⟨r',j,none⟩=w.cell? ⟨r',j,none⟩:=fun r' j=>lF w ⟨r,q,none⟩ 1 r' j h3 (by decide)
 have qC:∀r',r'≠r→(w.freeze ⟨r,q,none⟩ 1).heap[r']?=w.heap[r']?:=fun r' hr=>iw w ⟨r,q,none⟩ 1 r' hr
 have wk:(w.freeze ⟨r,q,none⟩ 1).heap.size=w.heap.size:=by unfold World.freeze;simp
 have le:Le g w g (w.freeze ⟨r,q,none⟩ 1):=⟨fun _ _ h=>h,fun _ _ h=>h,fun _ _ _ h=>h,fun r' o v _ hh=>by rw[cK];exact hh,rfl⟩
 have tr:CK w (w.freeze ⟨r,q,none⟩ 1) (fun r' j=>r'=r∧j=q) (fun _=>False):=by
  refine⟨by rw[wk];exact Nat.le_refl _,fun r' j _ _=>cK r' j,fun r' j _ hh=>by rw[cK];exact hh,fun r' x _ hx hh=>?_,fun r' _ _ hn=>?_,by unfold World.freeze;rfl,by unfold World.freeze;rfl⟩
  ·by_cases hr:r'=r
   ·subst hr;rw[h3]at hh;cases hh;cases hx
   ·rw[qC r' hr];exact hh
  ·by_cases hr:r'=r
   ·exact absurd ⟨hr,rfl⟩ (hn q)
   ·exact qC r' hr
 refine⟨_,_,g,aL,le,?_,?_,⟨by simp,fun b' y a _ d=>⟨bE a (by rintro rfl;rw[hφ]at d;cases d),d⟩⟩⟩
 ·refine h.wa (fun b'=>b'=b) tr (fun r' j j0 b' _ cV hk=>?_) le (fun r' j hs=>.inr (.inl ⟨b,by rw[hs.1,hs.2];exact h1,rfl⟩)) (fun _ hm=>hm.elim) (fun r' o hr=>h.fresh r' o (by rwa[wk]at hr)) (fun b' x hx=>by rw[List.length_set];exact h.gQ b' x hx)
   (fun t e x hx=>by rw[List.length_set];exact h.cq t e x hx) (fun _ _ _=>rfl) (fun _ _ _ _=>⟨id,id⟩) (fun _ _ _ _=>rfl) (fun b' x hx=>?_)
  ·by_cases hr:r'=r
   ·subst hr
    by_cases hj:j=q
    ·subst hj
     rcases hk with hk|hk<;>rw[h1]at hk<;>cases hk
     exact absurd rfl cV
    ·rcases hk with hk|hk<;>rw[h2 j hj]at hk<;>cases hk
   ·unfold World.frozen?;rw[qC r' hr]
  ·rcases bj fo hx with⟨rfl,rfl⟩|⟨aG,en⟩
   ·right;trivial
   ·exact .inl ⟨aG,en⟩
 ·have gI:(cs.map fun c=>[c]).flatten=cs:=by
   clear h6 h5 hl hb
   induction cs with
   | nil=>rfl
   | cons c l ih=>simp only[List.map_cons,List.flatten_cons,ih];rfl
  have hlen:(cs.map fun c=>[c]).length=len:=by rw[List.length_map];exact hl.symm
  have:=VR.gh (g:=g) (w:=w.freeze ⟨r,q,none⟩ 1) (k:=.arg) (es:=cs.map fun c=>[c]) (r:=r) (o:=0+0) (cap:=cap) (n:=1) (vs:=c.toList)
   (by intro c hc;obtain⟨b,_,rfl⟩:=List.mem_map.1 hc;rfl) (by
    rw[gI]
    refine⟨by have:=Array.length_toList (xs:=c);omega,fun i t v a bb=>?_⟩
    obtain⟨_,v',k1,k2⟩:=h6 i t a
    rw[Array.getElem?_toList,k1]at bb;cases bb
    exact k2.mono le)
   (by rw[gI];intro t ht;obtain⟨i,hi⟩:=List.getElem?_of_mem ht;exact(h6 i t hi).1) (by rw[hlen];exact hc) trivial (fun j v hj=>by
    rw[Array.getElem?_toList]at hj
    have aD:j<c.size:=(Array.getElem?_eq_some_iff.1 hj).1
    refine⟨h2 (0+0+j) (by rw[←h4];omega),?_⟩
    rw[cK]
    unfold World.cell?
    simp only[h3,Nat.zero_add]
    exact hj)
  rw[hlen]at this
  exact this
theorem qD {src dst:TypeId}{v:Value}{x:X}{b:Bo}(hc:jD P src dst x=some b)(h:SR w0 g H w)(hx:VR g w (x.ev R) v)(he:ae R H b=some (t,H')):tC P w0 g H w (do pure (Next.value (←convert src dst v))) t H':=by
 refine aI.fu ?_
 unfold jD at hc
 cases hs:P.underlying src with
 | none=>simp[hs]at hc
 | some ds =>
  cases hd:P.underlying dst with
  | none=>simp[hs,hd]at hc
  | some dd =>
   rw[hs,hd]at hc
   cases ds<;>cases dd<;>simp only[reduceCtorEq]at hc
   ·rename_i k0 k
    simp at hc;subst hc
    simp only[ae]at he
    generalize x.ev R=tx at hx he
    cases tx<;>simp at he
    obtain⟨rfl,rfl⟩:=he
    exact tX hs hd h hx
   ·rename_i e
    cases hu:P.underlying e with
    | none=>simp[hu]at hc
    | some d =>
     have zQ:d=.int .u8∧b=.vY false x:=by
      rw[hu]at hc
      cases d with
      | int k=>cases k<;>simp at hc;exact⟨rfl,hc.symm⟩
      | _=>simp at hc
     obtain⟨rfl,rfl⟩:=zQ
     simp only[ae]at he
     generalize x.ev R=tx at hx he
     cases hx<;>(try simp only[reduceCtorEq]at he)
     ·split at he
      ·cases he;exact uU hs hd hu h
      ·cases he
     ·rename_i b0 Gm Gn n0 r0 o0 q0 Gp _ _ _
      cases hb:H[b0]? with
      | none=>simp[hb]at he
      | some y=>cases y<;>simp[hb]at he
   ·rename_i e
    cases hu:P.underlying e with
    | none=>simp[hu]at hc
    | some d =>
     have zQ:d=.int .u8∧b=.vX x:=by
      rw[hu]at hc
      cases d with
      | int k=>cases k<;>simp at hc;exact⟨rfl,hc.symm⟩
      | _=>simp at hc
     obtain⟨rfl,rfl⟩:=zQ
     simp only[ae]at he
     cases eY:aJ H 1 (x.ev R)with
     | none=>simp[eY]at he
     | some es =>
      have tq:∀s,x.ev R≠.str s:=by
       intro s e;simp only[e]at he;split at he<;>cases he
      have we:(bytesOf es).map (fun l=>(T.str ⟨l.toArray⟩,H))=some (t,H'):=by
       simp only[eY]at he
       generalize x.ev R=tx at he tq
       cases tx<;>first|exact he|exact absurd rfl (tq _)
      simp only[Option.map_eq_some_iff,Prod.mk.injEq]at we
      obtain⟨l,h1,rfl,rfl⟩:=we
      exact ua hs hu hd h hx eY tq h1
   ·rename_i e0 e
    split at hc
    ·rename_i Da
     have Da:src=dst:=by simpa using Da
     subst Da
     cases hu:P.underlying e with
     | none=>simp[hu]at hc
     | some d =>
      have zQ:d=.int .u8∧b=.vY true x:=by
       rw[hu]at hc
       cases d with
       | int k=>cases k<;>simp at hc;exact⟨rfl,hc.symm⟩
       | _=>simp at hc
      obtain⟨rfl,rfl⟩:=zQ
      simp only[ae]at he
      generalize x.ev R=tx at hx he
      cases tx<;>(try simp only[reduceCtorEq]at he)
      ·simp at he
      rename_i b0 off len n
      cases hb:H[b0]? with
      | none=>simp[hb]at he
      | some y =>
       cases y<;>simp only[hb,reduceCtorEq]at he
       split at he
       ·rename_i hh
        obtain⟨_,rfl,rfl,hl⟩:=hh
        cases he
        exact uV hd hu h hx hb hl
       ·cases he
    ·cases hc
end
section
variable {P:Program} {w0 w:World} {g:Ctx} {H H':aa} {R:ai} {ρ:Operand→Value} {t:T}
theorem cf {ty:TypeId}{z:List T}(h:zeroOf P ty=some z):∃i zv,P.info? ty=some i∧i.zero=some zv∧bO zv.cells.toList=some z:=by
 unfold zeroOf at h
 cases h1:P.info? ty with
 | none=>simp[h1]at h
 | some i =>
  simp only[h1]at h
  cases h2:i.zero with
  | none=>simp[h2]at h
  | some zv=>simp only[h2]at h;exact⟨i,zv,rfl,h2,h⟩
theorem m8 {dq:List TypeId}{rt:TypeId}{mu:Bool}{as:List X}{vs:List Value}{b:Bo}(hc:eO P mu dq as=some b)(h:SR w0 g H w)(hv:ax g w (as.map (X.ev R)) vs)(he:ae R H b=some (t,H')) :
  aI P w0 g H w (Builtin.append_ dq.toArray rt vs.toArray) t H':=by
 unfold eO at hc
 split at hc
 ·rename_i sT xT x y
  cases vs with
  | nil=>have:=hv.1;simp at this
  | cons vx vs =>
   cases vs with
   | nil=>have:=hv.1;simp at this
   | cons vy vs =>
    cases vs with
    | cons _ _=>have:=hv.1;simp at this
    | nil =>
     have hx:VR g w (x.ev R) vx:=hv.head
     have hy:VR g w (y.ev R) vy:=hv.tail.head
     cases hs:P.underlying sT with
     | none=>simp[hs]at hc
     | some ds =>
      cases uJ:P.underlying xT with
      | none=>cases ds<;>simp[hs,uJ]at hc
      | some dx =>
       cases ds<;>simp only[hs,uJ]at hc<;>(try (cases hc;done))
       rename_i e
       cases hi:P.info? e with
       | none=>simp[hi]at hc
       | some ei =>
        simp only[hi]at hc
        cases hz:ei.zero with
        | none=>simp[hz]at hc
        | some zv =>
         simp only[hz]at hc
         split at hc
         ·rename_i aB
          simp only[Bool.and_eq_true,beq_iff_eq,bne_iff_ne]at aB
          simp at hc;subst hc
          have E:gi P sT xT e ei zv ei.size ei.bytes:=⟨hs,hi,⟨dx,uJ,fun k e=>by subst e;simp[qz]at aB⟩,rfl,hz,aB.1.2,rfl,aB.2⟩
          simp only[ae]at he
          cases jg:aJ H ei.size (y.ev R)with
          | none=>simp[jg]at he
          | some new =>
           simp only[jg]at he
           cases mu with
           | true =>
            simp only[if_true]at he
            exact qo E h hx.yX hy jg he
           | false =>
            simp only[Bool.false_eq_true,if_false]at he
            generalize x.ev R=tx at hx he
            cases tx<;>(try simp only[reduceCtorEq]at he)
            split at he
            ·rename_i et
             exact uy E h hx hy et jg he
            ·cases he
         ·cases hc
 ·cases hc
theorem uW {dq:List TypeId}{rt:TypeId}{as:List X}{vs:List Value}{b:Bo}(hc:lD P dq as=some b)(h:SR w0 g H w)(hv:ax g w (as.map (X.ev R)) vs)(he:ae R H b=some (t,H')) :
  aI P w0 g H w (Builtin.append_ dq.toArray rt vs.toArray) t H':=by
 unfold lD at hc
 split at hc
 ·rename_i sT xT x k
  cases vs with
  | nil=>have:=hv.1;simp at this
  | cons vx vs =>
   cases vs with
   | nil=>have:=hv.1;simp at this
   | cons vk vs =>
    cases vs with
    | cons _ _=>have:=hv.1;simp at this
    | nil =>
     have hx:VR g w (x.ev R) vx:=hv.head
     have hk:VR g w (k.ev R) vk:=hv.tail.head
     cases hs:P.underlying sT with
     | none=>simp[hs]at hc
     | some ds =>
      cases uJ:P.underlying xT with
      | none=>cases ds<;>simp[hs,uJ]at hc
      | some dx =>
       cases ds<;>cases dx<;>simp only[hs,uJ]at hc<;>(try (cases hc;done))
       rename_i e kn
       cases hi:P.info? e with
       | none=>simp[hi]at hc
       | some ei =>
        cases hz:zeroOf P e with
        | none=>simp[hi,hz]at hc
        | some z =>
         simp only[hi,hz]at hc
         split at hc
         ·rename_i aB
          simp only[bne_iff_ne,ne_eq]at aB
          simp only[Option.some.injEq]at hc;subst hc
          obtain⟨i,zv,h1,h2,h3⟩:=cf hz
          rw[hi]at h1;cases h1
          simp only[ae,Option.bind_eq_some_iff]at he
          obtain⟨kk,jx,he⟩:=he
          generalize k.ev R=tk at hk jx
          cases hk<;>simp only[aR]at jx<;>(try (cases jx;done))
          rename_i kq m
          split at jx
          ·rename_i hm
           simp only[Option.some.injEq]at jx
           subst jx
           have:=uI (rt:=rt) (kq:=kq) hs uJ hi h2 h3 aB h hx he
           rw[Int.toNat_of_nonneg hm]at this
           exact this
          ·cases jx
         ·cases hc
 ·cases hc
theorem uX {f:FuncId}{n:Nat}{x y:X}{args:Array Operand}{ρ:Operand→Value}(mI:nR P f=some n)(h:SR w0 g H w)(fZ:ax g w ([x,y].map (X.ev R)) (args.toList.map ρ))(he:pX H n (x.ev R) (y.ev R)=some (t,H')) :
  tC P w0 g H w (callFunc f (args.map ρ)) t H':=by
 unfold nR at mI
 cases hf:P.funcs[f]? with
 | none=>simp[hf]at mI
 | some fn =>
  simp only[hf]at mI
  cases hp:fn.params[0]? with
  | none=>simp[hp]at mI
  | some tS =>
   simp only[hp]at mI
   cases ht:P.underlying tS with
   | none=>simp[ht]at mI
   | some d =>
    cases d<;>simp only[ht]at mI<;>(try (cases mI;done))
    rename_i e
    cases hi:P.info? e with
    | none=>simp[hi]at mI
    | some ei =>
     simp only[hi]at mI
     split at mI
     ·rename_i hc
      simp only[Option.some.injEq]at mI;subst mI
      simp only[Bool.and_eq_true,wi,Option.isNone_iff_eq_none,beq_iff_eq,bne_iff_ne,ne_eq]at hc
      obtain⟨⟨⟨⟨c1,c2⟩,c3⟩,c4⟩,⟨c5,c6⟩,c7⟩:=hc
      have zR:Extern.find fn=some (Extern.SlicesOverlaps.overlaps fn.params fn.resultTypes):=by
       have r1:Extern.allGenericRows.lookup "slices.overlaps"=none:=by kernel_rfl
       have r2:Extern.allTypedRows.lookup "slices.overlaps"=some Extern.SlicesOverlaps.overlaps:=by kernel_rfl
       unfold Extern.find
       simp only[c4,c5,c6,c7,r1,r2,Option.map_none,Option.map_some]
       rfl
      cases ha:args.toList.map ρ with
      | nil=>rw[ha]at fZ;have:=fZ.1;simp at this
      | cons vx vs =>
       cases vs with
       | nil=>rw[ha]at fZ;have:=fZ.1;simp at this
       | cons vy vs =>
        cases vs with
        | cons _ _=>rw[ha]at fZ;have:=fZ.1;simp at this
        | nil =>
         rw[ha]at fZ
         have hx:VR g w (x.ev R) vx:=fZ.head
         have hy:VR g w (y.ev R) vy:=fZ.tail.head
         have fP:args.map ρ=#[vx,vy]:=by apply Array.ext';simp[ha]
         obtain⟨v,w',g',h1,h2,h3,h4,h5⟩:=uK (results:=fn.resultTypes) hp ht hi h hx hy he
         refine⟨.value v,v,w',g',?_,.inl rfl,h2,h3,h4,h5⟩
         rw[fP,run_callFunc_extern hf (by simpa using c1) (by simp[c2]) c3 zR,h1]
         rfl
     ·cases mI
theorem lG {bi:Builtin}{dq:List TypeId}{rt:TypeId}{cs:Array Bool}{mu:Bool}{as:List X}{vs:List Value}{b:Bo}(hc:dF P mu bi dq as=some b)(h:SR w0 g H w)(hv:ax g w (as.map (X.ev R)) vs)(he:ae R H b=some (t,H')) :
  tC P w0 g H w (builtin bi dq.toArray rt cs vs.toArray) t H':=by
 have two:∀(x y:X),as=[x,y]→∃vx vy,vs=[vx,vy]∧VR g w (x.ev R) vx∧VR g w (y.ev R) vy:=by
  rintro x y rfl
  cases vs with
  | nil=>have:=hv.1;simp at this
  | cons vx vs =>
   cases vs with
   | nil=>have:=hv.1;simp at this
   | cons vy vs =>
    cases vs with
    | cons _ _=>have:=hv.1;simp at this
    | nil=>exact⟨vx,vy,rfl,hv.head,hv.tail.head⟩
 unfold dF at hc
 split at hc
 ·cases hz:lD P dq as with
  | some b'=>rw[hz]at hc;simp only[Option.some.injEq]at hc;subst hc;exact(uW hz h hv he).fu
  | none=>rw[hz]at hc;exact(m8 hc h hv he).fu
 ·-- cap
  rename_i ty x
  cases vs with
  | nil=>have:=hv.1;simp at this
  | cons vx vs =>
   cases vs with
   | cons _ _=>have:=hv.1;simp at this
   | nil =>
    have hx:VR g w (x.ev R) vx:=hv.head
    cases hu:P.underlying ty with
    | none=>simp[hu]at hc
    | some d =>
     cases d<;>simp only[hu]at hc<;>(try (cases hc;done))
     simp only[Option.some.injEq]at hc;subst hc
     simp only[ae]at he
     generalize x.ev R=tx at hx he
     cases tx<;>simp only[reduceCtorEq,Option.some.injEq,Prod.mk.injEq]at he
     obtain⟨rfl,rfl⟩:=he
     exact(uF hu h hx).fu
 ·-- copy
  rename_i dT sT x y
  obtain⟨vx,vy,rfl,hx,hy⟩:=two x y rfl
  cases hu:P.underlying dT with
  | none=>simp[hu]at hc
  | some d =>
   cases d<;>simp only[hu]at hc<;>(try (cases hc;done))
   rename_i e
   cases hi:P.info? e with
   | none=>simp[hi]at hc
   | some ei =>
    simp only[hi,Option.map_some,Option.some.injEq]at hc;subst hc
    simp only[ae]at he
    exact(uG hu hi h hx hy he).fu
 ·-- len
  rename_i ty x
  cases vs with
  | nil=>have:=hv.1;simp at this
  | cons vx vs =>
   cases vs with
   | cons _ _=>have:=hv.1;simp at this
   | nil =>
    have hx:VR g w (x.ev R) vx:=hv.head
    cases hu:P.underlying ty with
    | none=>simp[hu]at hc
    | some d =>
     have hl:∃k,CN k d=true∧b=.len k x:=by
      cases d<;>simp[hu]at hc
      ·exact⟨.str,rfl,hc.symm⟩
      ·exact⟨.sl,rfl,hc.symm⟩
      ·exact⟨.map,rfl,hc.symm⟩
     obtain⟨k,hk,rfl⟩:=hl
     simp only[ae,Option.map_eq_some_iff,Prod.mk.injEq]at he
     obtain⟨n,h1,rfl,rfl⟩:=he
     exact(tY hu hk h hx h1).fu
 ·-- clear
  rename_i ty x
  cases vs with
  | nil=>have:=hv.1;simp at this
  | cons vx vs =>
   cases vs with
   | cons _ _=>have:=hv.1;simp at this
   | nil =>
    have hx:VR g w (x.ev R) vx:=hv.head
    cases hu:P.underlying ty with
    | none=>simp[hu]at hc
    | some d =>
     cases d<;>simp only[hu]at hc<;>(try (cases hc;done))
     rename_i e
     cases hi:P.info? e with
     | none=>simp[hi]at hc
     | some ei =>
      cases hz:zeroOf P e with
      | none=>simp[hi,hz]at hc
      | some z =>
       simp only[hi,hz,Option.some.injEq]at hc;subst hc
       obtain⟨i,zv,k1,k2,k3⟩:=cf hz
       rw[hi]at k1;cases k1
       simp only[ae]at he
       generalize x.ev R=tx at hx he
       cases tx<;>(try (simp only[reduceCtorEq]at he;done))
       rename_i bb off len n'
       simp only at he
       cases hb:H[bb]? with
       | none=>simp[hb]at he
       | some y =>
        cases y<;>simp only[hb]at he<;>(try (cases he;done))
        rename_i Gq
        split at he
        ·rename_i kv
         obtain⟨rfl,lB,hle⟩:=kv
         simp only[Option.some.injEq,Prod.mk.injEq]at he
         obtain⟨rfl,rfl⟩:=he
         exact(uP hu hi k2 k3 h hx hb lB hle).fu
        ·cases he
 ·rename_i x y
  obtain⟨vx,vy,rfl,hx,hy⟩:=two x y rfl
  simp at hc;subst hc
  simp only[ae]at he
  generalize x.ev R=tx at hx he
  generalize y.ev R=xY at hy he
  cases tx<;>cases xY<;>simp only[reduceCtorEq,Option.some.injEq,Prod.mk.injEq]at he
  obtain⟨rfl,rfl⟩:=he
  exact(xF h hx hy).fu
 ·rename_i x y
  obtain⟨vx,vy,rfl,hx,hy⟩:=two x y rfl
  simp at hc;subst hc
  simp only[ae]at he
  generalize x.ev R=tx at hx he
  generalize y.ev R=xY at hy he
  cases tx<;>cases xY<;>simp only[reduceCtorEq,Option.some.injEq,Prod.mk.injEq]at he
  obtain⟨rfl,rfl⟩:=he
  exact(xG h hx hy).fu
 ·-- delete
  rename_i ty xt m k
  obtain⟨vm,vk,rfl,hm,hk⟩:=two m k rfl
  cases hu:P.underlying ty with
  | none=>simp[hu]at hc
  | some d =>
   cases d<;>simp only[hu]at hc<;>(try (cases hc;done))
   rename_i key elem
   cases dU:ky P key with
   | none=>simp[dU]at hc
   | some kt =>
    simp only[dU]at hc
    split at hc
    ·rename_i ll
     simp at hc;subst hc
     simp only[ae]at he
     generalize m.ev R=tm at hm he
     cases tm<;>(try simp only[reduceCtorEq]at he)
     rename_i bb
     split at he
     ·rename_i mU
      cases hb:H[bb]? with
      | none=>simp[hb]at he
      | some z =>
       cases z<;>simp only[hb]at he<;>(try (cases he;done))
       rename_i es
       cases hr:bl (k.ev R) es with
       | none=>simp[hr]at he
       | some r =>
        have:=uu (rt:=rt) (xt:=xt) hu ll h hm hk mU hb hr
        cases r with
        | none=>simp only[hr,Option.some.injEq,Prod.mk.injEq]at he;obtain⟨rfl,rfl⟩:=he;exact this.fu
        | some i=>simp only[hr,Option.some.injEq,Prod.mk.injEq]at he;obtain⟨rfl,rfl⟩:=he;exact this.fu
     ·cases he
    ·cases hc
 ·cases hc
theorem nU {ty:TypeId}{m k:X}{e:Nat}{kt:KT}{z:T}(h:m7 P ty m k=some (e,kt,z)):∃key ei zv,P.underlying ty=some (.map key e)∧P.info? e=some ei∧ei.zero=some zv∧fk zv=some z∧fm P key kt=true:=by
 unfold m7 at h
 cases hu:P.underlying ty with
 | none=>simp[hu]at h
 | some d =>
  cases d<;>simp only[hu]at h<;>(try (cases h;done))
  rename_i key e'
  cases h1:ky P key with
  | none=>simp[h1]at h
  | some ID =>
   cases h2:P.info? e' with
   | none=>simp[h1,h2]at h
   | some ei =>
    simp only[h1,h2]at h
    cases h3:ei.zero with
    | none=>simp[h3]at h
    | some zv =>
     simp only[h3]at h
     cases h4:fk zv with
     | none=>simp[h4]at h
     | some z' =>
      simp only[h4]at h
      split at h
      ·rename_i ll
       simp at h
       obtain⟨rfl,rfl,rfl⟩:=h
       exact⟨key,ei,zv,rfl,h2,h3,h4,ll⟩
      ·cases h
theorem nV {ty:TypeId}{m k v:X}{vm vk vv:Value}{e:Nat}{kt:KT}{z:T}(hc:m7 P ty m k=some (e,kt,z))(h:SR w0 g H w)(hm:VR g w (m.ev R) vm)(hk:VR g w (k.ev R) vk)(hv:VR g w (v.ev R) vv)(he:ae R H (.oN kt m k v)=some (t,H')) :
  tC P w0 g H w (do Instr.mapUpdate ty vm vk vv;pure Next.skip) t H':=by
 obtain⟨key,ei,zv,hu,hi,hz,iX,ll⟩:=nU hc
 simp only[ae]at he
 generalize m.ev R=tm at hm he
 cases tm<;>(try simp only[reduceCtorEq]at he)
 rename_i bb
 split at he
 ·rename_i mU
  cases hb:H[bb]? with
  | none=>simp[hb]at he
  | some y =>
   cases y<;>simp only[hb]at he<;>(try (cases he;done))
   rename_i es
   cases hr:bl (k.ev R) es with
   | none=>simp[hr]at he
   | some r =>
    obtain⟨w',g',h1,h2,h3,h4⟩:=ur hu ll h hm hk hv mU hb hr
    cases r with
    | none=>simp only[hr,Option.some.injEq,Prod.mk.injEq]at he;obtain⟨rfl,rfl⟩:=he;exact⟨.skip,undef,w',g',by simp[h1],.inr ⟨rfl,rfl⟩,h2,h3,da,h4⟩
    | some i=>simp only[hr,Option.some.injEq,Prod.mk.injEq]at he;obtain⟨rfl,rfl⟩:=he;exact⟨.skip,undef,w',g',by simp[h1],.inr ⟨rfl,rfl⟩,h2,h3,da,h4⟩
 ·cases he
theorem uY {ty:TypeId}{m k:X}{vm vk:Value}{e:Nat}{kt:KT}{z:T}{ok:Bool}(hc:m7 P ty m k=some (e,kt,z))(h:SR w0 g H w)(hm:VR g w (m.ev R) vm)(hk:VR g w (k.ev R) vk)(he:ae R H (.gZ kt z ok m k)=some (t,H')) :
  aI P w0 g H w (Instr.lookup ty vm vk ok) t H':=by
 obtain⟨key,ei,zv,hu,hi,hz,iX,ll⟩:=nU hc
 simp only[ae]at he
 split at he
 ·rename_i mU
  cases eY:cp H (m.ev R)with
  | none=>simp[eY]at he
  | some es =>
   simp only[eY]at he
   cases hr:bl (k.ev R) es with
   | none=>simp[hr]at he
   | some r =>
    cases r with
    | none =>
     simp only[hr,Option.some.injEq,Prod.mk.injEq]at he
     obtain⟨rfl,rfl⟩:=he
     exact nJ hu hi hz iX ll h hm hk mU eY hr rfl
    | some i =>
     simp only[hr]at he
     cases hx:es[i]? with
     | none=>simp[hx]at he
     | some x =>
      simp only[hx,Option.some.injEq,Prod.mk.injEq]at he
      obtain⟨rfl,rfl⟩:=he
      exact nJ hu hi hz iX ll h hm hk mU eY hr (by simp[hx])
 ·cases he
theorem pf {ty:TypeId}{ps:List (Nat×X)}{pv:List (Nat×Value)}{b:Bo}(hc:gq P ty ps=some b)(h:SR w0 g H w)(hv:PV g w R ps pv)(he:ae R H b=some (t,H')):aI P w0 g H w (Instr.build ty pv.toArray) t H':=by
 unfold gq at hc
 cases hu:P.underlying ty with
 | none=>simp[hu]at hc
 | some d =>
  cases hz:zeroOf P ty with
  | none=>cases d<;>simp[hu,hz]at hc
  | some z =>
   cases d<;>simp only[hu,hz]at hc<;>(try (cases hc;done))
   rename_i fs
   split at hc
   ·rename_i aB
    simp only[Bool.and_eq_true]at aB
    simp only[Option.some.injEq]at hc;subst hc
    obtain⟨i,zv,h1,h2,h3⟩:=cf hz
    simp only[ae]at he
    split at he
    ·rename_i l hl
     simp only[Option.map_eq_some_iff,Prod.mk.injEq]at he
     obtain⟨cs,h4,rfl,rfl⟩:=he
     refine o5 hu h1 h2 h3 (fun f hf=>?_) (fun p hp=>?_) h hv hl h4
     ·have:=aB.1
      simp only[lE,List.all_eq_true]at this
      exact Option.isSome_iff_exists.1 (this f hf)
     ·have:=aB.2
      simp only[List.all_eq_true,decide_eq_true_eq]at this
      exact this p hp
    ·cases he
   ·cases hc
theorem uZ {ty:TypeId}{n:Nat}{ps:List (Nat×X)}{pv:List (Nat×Value)}{b:Bo}{mu:Bool}(hc:pa P mu ty n ps=some b)(h:SR w0 g H w)(hv:PV g w R ps pv)(he:ae R H b=some (t,H')):aI P w0 g H w (Instr.buildSlice ty n pv.toArray) t H':=by
 unfold pa at hc
 cases hu:P.underlying ty with
 | none=>simp[hu]at hc
 | some d =>
  cases d<;>simp only[hu]at hc<;>(try (cases hc;done))
  rename_i e
  cases hi:P.info? e with
  | none=>simp[hi]at hc
  | some ei =>
   cases hz:zeroOf P e with
   | none=>simp[hi,hz]at hc
   | some z =>
    simp only[hi,hz]at hc
    split at hc
    ·rename_i aB
     simp only[Bool.and_eq_true,beq_iff_eq,decide_eq_true_eq]at aB
     simp at hc;subst hc
     obtain⟨i,zv,h1,h2,h3⟩:=cf hz
     rw[hi]at h1;cases h1
     cases mu with
     | false =>
      simp only[Bool.false_eq_true,if_false,ae,Option.map_eq_some_iff,Prod.mk.injEq]at he
      obtain⟨fs,h4,rfl,rfl⟩:=he
      exact uC hu hi h2 h3 aB.1 aB.2 h hv h4
     | true =>
      simp only[if_true,ae,Option.bind_eq_some_iff]at he
      obtain⟨fs,h4,he⟩:=he
      split at he
      ·simp only[Option.some.injEq,Prod.mk.injEq]at he
       obtain⟨rfl,rfl⟩:=he
       exact uH hu hi h2 h3 aB.1 aB.2 h hv h4
      ·cases he
    ·cases hc
theorem u0 {ty:TypeId}{mu:Bool}{l c:X}{vl vc:Value}{b:Bo}(hc:pb P mu ty l c=some b)(h:SR w0 g H w)(hl:VR g w (l.ev R) vl)(tz:VR g w (c.ev R) vc)(he:ae R H b=some (t,H')):aI P w0 g H w (Instr.makeSlice ty vl vc) t H':=by
 unfold pb at hc
 cases hu:P.underlying ty with
 | none=>simp[hu]at hc
 | some d =>
  cases d<;>simp only[hu]at hc<;>(try (cases hc;done))
  rename_i e
  cases hi:P.info? e with
  | none=>simp[hi]at hc
  | some ei =>
   cases hz:zeroOf P e with
   | none=>simp[hi,hz]at hc
   | some z =>
    simp only[hi,hz]at hc
    split at hc
    ·rename_i aB
     simp only[Bool.and_eq_true,beq_iff_eq,bne_iff_ne]at aB
     simp at hc;subst hc
     obtain⟨i,zv,h1,h2,h3⟩:=cf hz
     rw[hi]at h1;cases h1
     simp only[ae]at he
     cases Cl:aR (l.ev R)with
     | none=>simp[Cl]at he
     | some nl =>
      cases Db:aR (c.ev R)with
      | none=>simp[Cl,Db]at he
      | some nc =>
       simp only[Cl,Db]at he
       split at he
       ·rename_i cN
        refine uD (mu:=mu) hu hi h2 h3 aB.1 aB.2 h hl tz Cl Db cN.1 cN.2.1 cN.2.2 ?_
        cases mu with
        | true=>simpa using he
        | false =>
         simp only[Bool.false_eq_true,if_false]at he ⊢
         split at he
         ·rename_i e0;rw[if_pos e0];simpa using he
         ·rename_i e0;rw[if_neg e0];simpa using he
       ·cases he
    ·cases hc
theorem RV.get {xs:List Operand}(h:RV g w R ρ xs){x:Operand}{y:X}(hx:x∈xs)(hc:aj x=some y):VR g w (y.ev R) (ρ x):=h x hx y hc
theorem x7 {mu:Bool}{o:Oper}{b:Bo}(hρ:∀f:FuncId,ρ (.func f)=.func (.func f) #[] #[])(hc:aA P mu o.op=some b)(h:SR w0 g H w)(hv:RV g w R ρ o.op.operands.toList)(he:ae R H b=some (t,H')):tC P w0 g H w (execOp ρ o) t H':=by
 obtain⟨dst,op,ty,pos,after,guard⟩:=o
 cases op<;>simp only[aA]at hc<;>(try (cases hc;done))<;>simp only[Op.operands]at hv
 case move x =>
  simp only[Option.map_eq_some_iff]at hc
  obtain⟨y,h1,rfl⟩:=hc
  simp only[ae,Option.some.injEq,Prod.mk.injEq]at he
  obtain⟨rfl,rfl⟩:=he
  exact⟨_,_,w,g,rfl,.inl rfl,.refl _ _,h,hv.get (by simp) h1,.refl _ _⟩
 case assign x =>
  simp only[Option.map_eq_some_iff]at hc
  obtain⟨y,h1,rfl⟩:=hc
  simp only[ae,Option.some.injEq,Prod.mk.injEq]at he
  obtain⟨rfl,rfl⟩:=he
  exact⟨_,_,w,g,rfl,.inl rfl,.refl _ _,h,hv.get (by simp) h1,.refl _ _⟩
 case pick c x y =>
  cases h1:aj c with
  | none=>simp[h1]at hc
  | some c' =>
   cases h2:aj x with
   | none=>simp[h1,h2]at hc
   | some x' =>
    cases h3:aj y with
    | none=>simp[h1,h2,h3]at hc
    | some y' =>
     simp only[h1,h2,h3,Option.some.injEq]at hc
     subst hc
     have vc:=hv.get (by simp) h1
     have vx:=hv.get (by simp) h2
     have vy:=hv.get (by simp) h3
     simp only[ae]at he
     generalize c'.ev R=tc at vc he
     cases tc<;>(try simp only[reduceCtorEq]at he)
     simp only[Option.some.injEq,Prod.mk.injEq]at he
     obtain⟨rfl,rfl⟩:=he
     obtain⟨v,w',g',k1,k2⟩:=qb (P:=P) h vc vx vy
     refine⟨.value v,v,w',g',?_,.inl rfl,k2⟩
     simp only[execOp,Sem.run_bind,Sem.run_pure]at k1 ⊢
     generalize (asBool (ρ c)).run P w=r at k1 ⊢
     cases r<;>simp_all
 case alloc jF =>
  simp only[Option.map_eq_some_iff]at hc
  obtain⟨z,h1,rfl⟩:=hc
  obtain⟨i,zv,h2,h3,h4⟩:=cf h1
  simp only[ae,Option.some.injEq,Prod.mk.injEq]at he
  obtain⟨rfl,rfl⟩:=he
  exact(o4 h2 h3 h4 h).fu
 case box jF x =>
  simp only[Option.map_eq_some_iff]at hc
  obtain⟨y,h1,rfl⟩:=hc
  simp only[ae,Option.map_eq_some_iff,Prod.mk.injEq]at he
  obtain⟨cs,h2,rfl,rfl⟩:=he
  exact(uo h (hv.get (by simp) h1) h2).fu
 case build jF ps =>
  simp only[Option.bind_eq_some_iff]at hc
  obtain⟨qs,h1,h2⟩:=hc
  have hp:=gu (ρ:=ρ) _ _ h1 (by simpa using hv)
  have:=(pf h2 h hp he).fu
  have e:(ps.map fun x=>(x.1,ρ x.2))=(ps.toList.map fun p=>(p.1,ρ p.2)).toArray:=by apply Array.ext';simp
  simp only[execOp]
  rw[e];exact this
 case buildSlice jF n ps =>
  simp only[Option.bind_eq_some_iff]at hc
  obtain⟨qs,h1,h2⟩:=hc
  have hp:=gu (ρ:=ρ) _ _ h1 (by simpa using hv)
  have:=(uZ h2 h hp he).fu
  have e:(ps.map fun x=>(x.1,ρ x.2))=(ps.toList.map fun p=>(p.1,ρ p.2)).toArray:=by apply Array.ext';simp
  simp only[execOp]
  rw[e];exact this
 case insert jF m k v =>
  cases h1:aj m with
  | none=>simp[h1]at hc
  | some m' =>
   cases h2:aj k with
   | none=>simp[h1,h2]at hc
   | some k' =>
    cases h3:aj v with
    | none=>simp[h1,h2,h3]at hc
    | some v' =>
     simp only[h1,h2,h3,Option.map_eq_some_iff]at hc
     obtain⟨⟨e,kt,z⟩,h4,rfl⟩:=hc
     exact nV h4 h (hv.get (by simp) h1) (hv.get (by simp) h2) (hv.get (by simp) h3) he
 case mapUpdate jF m k v =>
  cases h1:aj m with
  | none=>simp[h1]at hc
  | some m' =>
   cases h2:aj k with
   | none=>simp[h1,h2]at hc
   | some k' =>
    cases h3:aj v with
    | none=>simp[h1,h2,h3]at hc
    | some v' =>
     simp only[h1,h2,h3,Option.map_eq_some_iff]at hc
     obtain⟨⟨e,kt,z⟩,h4,rfl⟩:=hc
     exact nV h4 h (hv.get (by simp) h1) (hv.get (by simp) h2) (hv.get (by simp) h3) he
 case load jF x =>
  simp only[Option.bind_eq_some_iff]at hc
  obtain⟨y,h1,h2⟩:=hc
  exact qA h2 h (hv.get (by simp) h1) he
 case store jF a v =>
  cases h1:P.info? jF with
  | none=>simp[h1]at hc
  | some i =>
   cases h2:aj a with
   | none=>simp[h1,h2]at hc
   | some a' =>
    cases h3:aj v with
    | none=>simp[h1,h2,h3]at hc
    | some v' =>
     simp only[h1,h2,h3,Option.some.injEq]at hc
     subst hc
     simp only[ae]at he
     cases h4:(v'.ev R).cells? with
     | none=>simp[h4]at he
     | some vs =>
      simp only[h4]at he
      split at he
      ·rename_i hn
       simp only[Option.map_eq_some_iff,Prod.mk.injEq]at he
       obtain⟨H1,h5,rfl,rfl⟩:=he
       obtain⟨w',g',k1,k2,k3,k4⟩:=xK (P:=P) h1 h (hv.get (by simp) h2) (hv.get (by simp) h3) h4 hn h5
       exact⟨.skip,undef,w',g',by simp[execOp,k1],.inr ⟨rfl,rfl⟩,k2,k3,da,k4⟩
      ·cases he
 case nilCheck x =>
  simp only[Option.map_eq_some_iff]at hc
  obtain⟨y,h1,rfl⟩:=hc
  have vx:=hv.get (by simp) h1
  simp only[ae]at he
  have key:t=y.ev R∧H'=H∧∃v,(execOp ρ ⟨dst,.nilCheck x,ty,pos,after,guard⟩).run P w=.ok (.value v) w∧v=ρ x:=by
   simp only[execOp]
   generalize y.ev R=tx at vx he
   generalize ρ x=vv at vx
   cases vx<;>simp only[reduceCtorEq,Option.some.injEq,Prod.mk.injEq]at he<;>obtain⟨rfl,rfl⟩:=he<;>exact⟨rfl,rfl,_,rfl,rfl⟩
  obtain⟨rfl,rfl,v,k1,rfl⟩:=key
  exact⟨_,_,w,g,k1,.inl rfl,.refl _ _,h,vx,.refl _ _⟩
 case binOp op jF x y yt =>
  cases h1:aj x with
  | none=>simp[h1]at hc
  | some x' =>
   cases h2:aj y with
   | none=>simp[h1,h2]at hc
   | some y' =>
    simp only[h1,h2]at hc
    exact uQ hc h (hv.get (by simp) h1) (hv.get (by simp) h2) he
 case unOp op jF x =>
  simp only[Option.map_eq_some_iff]at hc
  obtain⟨y,h1,rfl⟩:=hc
  simp only[ae,Option.map_eq_some_iff,Prod.mk.injEq]at he
  obtain⟨t',h2,rfl,rfl⟩:=he
  exact(xB h (hv.get (by simp) h1) h2).fu
 case convert s d x =>
  simp only[Option.bind_eq_some_iff]at hc
  obtain⟨y,h1,h2⟩:=hc
  exact qD h2 h (hv.get (by simp) h1) he
 case makeFunc fn first er =>
  cases fn<;>simp only[aA]at hc<;>(try (cases hc;done))
  rename_i f
  split at hc
  ·rename_i h0
   simp only[Option.map_eq_some_iff]at hc
   obtain⟨ys,h1,rfl⟩:=hc
   have:first=#[]:=Array.eq_empty_of_size_eq_zero h0
   subst this
   simp only[ae,Option.some.injEq,Prod.mk.injEq]at he
   obtain⟨rfl,rfl⟩:=he
   have fZ:=cd (ρ:=ρ) _ _ h1 (fun x hx=>hv x (by simpa using hx))
   have:=(uE (P:=P) (f:=f) h fZ).fu
   have e:er.map ρ=(er.toList.map ρ).toArray:=by apply Array.ext';simp
   have e0:(#[]:Array Operand).map ρ=#[]:=by simp
   simp only[execOp]
   rw[e,e0];exact this
  ·cases hc
 case range jF m =>
  cases hu:P.underlying jF with
  | none=>simp[hu]at hc
  | some d =>
   cases d<;>simp only[hu]at hc<;>(try (cases hc;done))
   simp only[Option.map_eq_some_iff]at hc
   obtain⟨y,h1,rfl⟩:=hc
   have vm:=hv.get (by simp) h1
   simp only[ae]at he
   generalize y.ev R=tm at vm he
   cases tm<;>(try (simp only[reduceCtorEq]at he;done))
   rename_i bb
   simp only[Option.map_eq_some_iff,Prod.mk.injEq]at he
   obtain⟨es,h2,rfl,rfl⟩:=he
   exact(uM hu h vm h2).fu
 case next it str =>
  cases str<;>simp only[aA]at hc<;>(try (cases hc;done))
  simp only[Option.map_eq_some_iff]at hc
  obtain⟨y,h1,rfl⟩:=hc
  simp[ae]at he
 case entry it =>
  simp only[Option.map_eq_some_iff]at hc
  obtain⟨y,h1,rfl⟩:=hc
  have vm:=hv.get (by simp) h1
  simp only[ae]at he
  generalize y.ev R=tm at vm he
  cases tm<;>(try (simp only[reduceCtorEq]at he;done))
  rename_i bi off
  cases off with
  | succ _=>simp at he
  | zero =>
   simp only at he
   cases hi:H[bi]? with
   | none=>simp[hi]at he
   | some yi =>
    cases yi<;>simp only[hi]at he<;>(try (cases he;done))
    rename_i bb
    cases hb:H[bb]? with
    | none=>simp[hb]at he
    | some yb =>
     cases yb<;>simp only[hb]at he<;>(try (cases he;done))
     rename_i es ix v9 cur
     cases cur with
     | none=>simp at he
     | some c =>
      simp only at he
      split at he
      ·rename_i e;subst e
       simp only[Option.map_eq_some_iff,Prod.mk.injEq]at he
       obtain⟨e,h2,rfl,rfl⟩:=he
       exact(uO h vm hb h2).fu
      ·cases he
 case makeMap jF r =>
  cases r with
  | some _=>simp[aA]at hc
  | none =>
   simp only[aA,Option.some.injEq]at hc
   subst hc
   simp only[ae,Option.some.injEq,Prod.mk.injEq]at he
   obtain⟨rfl,rfl⟩:=he
   exact(uq h).fu
 case makeSlice jF l c =>
  cases h1:aj l with
  | none=>simp[h1]at hc
  | some l' =>
   cases h2:aj c with
   | none=>simp[h1,h2]at hc
   | some c' =>
    simp only[h1,h2]at hc
    exact(u0 hc h (hv.get (by simp) h1) (hv.get (by simp) h2) he).fu
 case slice jF x lo hi mx =>
  cases h1:aj x with
  | none=>simp[h1]at hc
  | some x' =>
   cases h2:dV lo with
   | none=>simp[h1,h2]at hc
   | some IE =>
    cases h3:dV hi with
    | none=>simp[h1,h2,h3]at hc
    | some fY =>
     cases h4:dV mx with
     | none=>simp[h1,h2,h3,h4]at hc
     | some IG =>
      simp only[h1,h2,h3,h4]at hc
      split at hc
      ·exact uS hc h (hv.get (by simp) h1) (cR h2 (fun z hz=>hv z (by simp;simp at hz;simp[hz]))) (cR h3 (fun z hz=>hv z (by simp;simp at hz;simp[hz]))) (cR h4 (fun z hz=>hv z (by simp;simp at hz;simp[hz]))) he
      ·exact pc hc h (hv.get (by simp) h1) (cR h2 (fun z hz=>hv z (by simp;simp at hz;simp[hz]))) (cR h3 (fun z hz=>hv z (by simp;simp at hz;simp[hz]))) (cR h4 (fun z hz=>hv z (by simp;simp at hz;simp[hz]))) he
 case fieldAddr jF x f =>
  simp only[Option.bind_eq_some_iff]at hc
  obtain⟨y,h1,h2⟩:=hc
  exact(jE h2 h (hv.get (by simp) h1) he).fu
 case field jF x f =>
  simp only[Option.bind_eq_some_iff]at hc
  obtain⟨y,h1,h2⟩:=hc
  exact(jE h2 h (hv.get (by simp) h1) he).fu
 case indexAddr jF x i =>
  cases h1:aj x with
  | none=>simp[h1]at hc
  | some x' =>
   cases h2:aj i with
   | none=>simp[h1,h2]at hc
   | some i' =>
    simp only[h1,h2]at hc
    exact(nT hc h (hv.get (by simp) h1) (hv.get (by simp) h2) he).fu
 case index jF x i =>
  cases h1:aj x with
  | none=>simp[h1]at hc
  | some x' =>
   cases h2:aj i with
   | none=>simp[h1,h2]at hc
   | some i' =>
    simp only[h1,h2]at hc
    exact(nT hc h (hv.get (by simp) h1) (hv.get (by simp) h2) he).fu
 case lookup jF m k ok =>
  cases h1:aj m with
  | none=>simp[h1]at hc
  | some m' =>
   cases h2:aj k with
   | none=>simp[h1,h2]at hc
   | some k' =>
    simp only[h1,h2,Option.map_eq_some_iff]at hc
    obtain⟨⟨e,kt,z⟩,h4,rfl⟩:=hc
    exact(uY h4 h (hv.get (by simp) h1) (hv.get (by simp) h2) he).fu
 case extract x i =>
  simp only[Option.map_eq_some_iff]at hc
  obtain⟨y,h1,rfl⟩:=hc
  have vx:=hv.get (by simp) h1
  simp only[ae]at he
  generalize y.ev R=tx at vx he
  cases tx<;>(try simp only[reduceCtorEq]at he)
  simp only[Option.map_eq_some_iff,Prod.mk.injEq]at he
  obtain⟨t',h2,rfl,rfl⟩:=he
  exact(um h vx h2).fu
 case call c =>
  obtain⟨callee,args,dq⟩:=c
  cases callee
  case value cv =>
   cases cv<;>simp only[aA]at hc<;>(try (cases hc;done))
   rename_i f
   split at hc
   ·rename_i n x y mI h1
    simp only[Option.some.injEq]at hc;subst hc
    have fZ:=cd (ρ:=ρ) _ _ h1 (fun x hx=>hv x (by simp[Call.operands];exact .inr (by simpa using hx)))
    simp only[ae]at he
    have hd:=uX mI h fZ he
    simpa[execOp,resolve,hρ,Deferred.ofValue,invoke]using hd
   ·cases hc
  all_goals simp only[aA]at hc<;>(try (cases hc;done))
  rename_i bi
  simp only[Option.bind_eq_some_iff]at hc
  obtain⟨as,h1,h2⟩:=hc
  have fZ:=cd (ρ:=ρ) _ _ h1 (fun x hx=>hv x (by simpa[Call.operands]using hx))
  have e:args.map ρ=(args.toList.map ρ).toArray:=by apply Array.ext';simp
  have e2:dq=dq.toList.toArray:=by simp
  have:=lG (rt:=ty) (cs:=args.map fun | .const _=>true|_=>false) h2 h fZ he
  simp only[execOp,resolve,pure_bind,invoke]
  rw[e,e2]
  exact this
end
section
variable {P:Program} {w0 w:World} {g:Ctx} {H:aa}
theorem SR.kz {b r o q:Nat}{x x':Obj}{y y':B}(h:SR w0 g H w)(hb:H[b]?=some y)(hφ:g.φ b=some (r,o,q))(h1:g.κ r 0=.mut b)(hr:w.heap[r]?=some x)(hs:cr x=true)(gR:cr x'=true)
  (ll:∀w',Le g w g w'→w'.heap[r]?=some x'→lh g w' b y') :
  Le g w g (w.putObj r x')∧SR w0 g (H.set b y') (w.putObj r x')∧Fr g H g (H.set b y'):=by
 have fo:b<H.length:=(List.getElem?_eq_some_iff.1 hb).1
 have tr:Tr w (w.putObj r x') cu (fun r'=>r'=r):=Tr.mW w r hs gR hr
 have le:Le g w g (w.putObj r x'):=Le.cJ tr (fun _ _ h=>h) (fun _ _ h=>h) (fun _ _ _ h=>h) (fun _ _ hs=>hs.elim)
 refine⟨le,h.step (fun b'=>b'=b) tr le (fun _ _ hs=>hs.elim) (fun r' hm=>⟨b,by rw[hm];exact h1,rfl⟩) (fun r' j e6=>h.fresh r' j (by simpa[World.putObj]using e6)) (fun b' x hx=>by rw[List.length_set];exact h.gQ b' x hx)
  (fun t e x hx=>by rw[List.length_set];exact h.cq t e x hx) (fun _ _ _=>rfl) (fun _ _ _ _=>⟨id,id⟩) (fun _ _ _ _=>rfl) (fun b' x hx=>?_),by simp,fun b' x a _ d=>⟨bE a (by rintro rfl;rw[hφ]at d;cases d),d⟩⟩
 rcases bj fo hx with⟨rfl,rfl⟩|⟨aG,en⟩
 ·exact .inr (ll _ le (World.putObj_heap_same (Array.getElem?_eq_some_iff.1 hr).1))
 ·exact .inl ⟨aG,en⟩
theorem SR.qE {x:Obj}{y:B}(h:SR w0 g H w)(Ge:cr x=true)
  (ll:∀g' w',Le g w g' w'→g'.κ w.heap.size 0=.mut H.length→g'.φ H.length=some (w.heap.size,0,0)→w'.heap[w.heap.size]?=some x→lh g' w' H.length y) :
  ∃g',Le g w g' (w.alloc x)∧SR w0 g' (H++[y]) (w.alloc x)∧Fr g H g' (H++[y])∧g'.φ H.length=some (w.heap.size,0,0):=by
 have jy:=Tr.alloc w x
 have aG:∀r j ow,g.κ r j=ow→ow≠.free→r≠w.heap.size:=by rintro r j ow e hn rfl;exact hn (e▸h.fresh _ j (Nat.le_refl _))
 have zK:=h.tw (b:=H.length) (Nat.le_refl _)
 have le:Le g w ((g.row w.heap.size fun _=>.mut H.length).at H.length (w.heap.size,0,0)) (w.alloc x):=Le.cJ jy
  (fun b' x hx=>by simp only[Ctx.at,Ctx.row];split;rename_i e;subst e;rw[zK]at hx;simp at hx;exact hx)
  (fun r o hk=>by simp only[Ctx.row,Ctx.at];rw[if_neg (aG r o _ hk (by simp))];exact hk) (fun _ _ _ h=>h) (fun _ _ hs=>hs.elim)
 refine⟨_,le,?_,⟨by simp,fun b x a _ d=>⟨bh a,?_⟩⟩,by simp[Ctx.at]⟩
 ·refine h.step (fun b'=>b'=H.length) jy le (fun _ _ hs=>hs.elim) (fun _ hm=>hm.elim) (fun r o hr=>?_) (fun b' x hx=>?_) (fun t e x hx=>by have:=h.cq t e x hx;simp;omega) (fun b' _ cV=>?_) (fun r j b' cV=>?_) (fun _ _ _ _=>rfl) (fun b' x hx=>?_)
  ·simp at hr
   simp only[Ctx.row,Ctx.at];rw[if_neg (by omega)];exact h.fresh r o (by omega)
  ·simp only[Ctx.at,Ctx.row]at hx
   split at hx
   ·rename_i e;subst e;simp
   ·have:=h.gQ b' x hx;simp;omega
  ·simp only[Ctx.at,Ctx.row];rw[if_neg cV]
  ·constructor<;>intro e<;>simp only[Ctx.row,Ctx.at]<;>rw[if_neg (aG r j _ e (by simp))]<;>exact e
  ·by_cases e:b'=H.length
   ·subst e
    rw[bm]at hx;cases hx
    exact .inr (ll _ _ le (by simp[Ctx.row,Ctx.at]) (by simp[Ctx.at]) (World.alloc_heap_new w _))
   ·exact .inl ⟨e,aN e hx⟩
 ·have:=(List.getElem?_eq_some_iff.1 a).1
  simp only[Ctx.at,Ctx.row];rw[if_neg (by omega)];exact d
theorem SR.freeze {b:Nat}{cs:List T}(h:SR w0 g H w)(hb:H[b]?=some (.cells cs))(hφ:∃x,g.φ b=some x) :
  ∃g',Le g w g' w∧SR w0 g' (H.set b .dead) w∧Fr g H g' (H.set b .dead)∧∀t v,VR g w t v→VR g' w (mO b cs t) v:=by
 let g':Ctx:={ g with κ:=fun r o=>if g.κ r o=.mut b then .cG else g.κ r o }
 have le:Le g w g' w:=⟨fun _ _ h=>h,fun r o e=>by simp only[g'];rw[e];simp,fun _ _ _ h=>h,fun _ _ _ _ h=>h,rfl⟩
 have fo:b<H.length:=(List.getElem?_eq_some_iff.1 hb).1
 have tr:Tr w w (fun _ _=>False) (fun _=>False):=⟨⟨Nat.le_refl _,fun _ _ _ _=>rfl,fun _ _ _ h=>h,fun _ _ _ _ h=>h,fun _ _ _ _=>rfl,rfl,rfl⟩,fun _ _ _=>rfl⟩
 have sr:SR w0 g' (H.set b .dead) w:=by
  refine h.step (fun b'=>b'=b) tr le (fun _ _ h=>h.elim) (fun _ h=>h.elim) (fun r o hr=>?_) (fun b' x hx=>?_) (fun t e x hx=>?_) (fun _ _ _=>rfl) (fun r j b' aG=>⟨fun e=>?_,fun e=>?_⟩) (fun _ _ _ _=>rfl) (fun b' x hx=>?_)
  ·simp only[g'];rw[h.fresh r o hr];simp
  ·rw[List.length_set];exact h.gQ b' x hx
  ·rw[List.length_set];exact h.cq t e x hx
  ·simp only[g'];rw[e,if_neg (by simpa using aG)]
  ·simp only[g'];rw[e,if_neg (by simp)]
  ·rcases bj fo hx with⟨rfl,rfl⟩|⟨aG,en⟩
   ·exact .inr trivial
   ·exact .inl ⟨aG,en⟩
 have one:∀t v,VR g w t v→VR g' w (tN b cs t) v:=by
  intro t v hv
  cases t with
  | aQ b' off len n =>
   simp only[tN]
   split
   ·rename_i hc
    obtain⟨rfl,hle⟩:=hc
    cases hv with
    | @aQ _ _ _ _ r o q cap hp hc hq =>
     obtain⟨c1,c2,c3⟩:=h.du _ _ hb r o q hp
     have hlen:(dP cs off len n).length=len:=by simp[dP]
     have qC:∀(i j:Nat) (c:List T) (t:T),(dP cs off len n)[i]?=some c→c[j]?=some t→j<n∧i<len∧cs[off+i*n+j]?=some t:=by
      intro i j c t hi hj
      have gn:i<len:=by have:=(List.getElem?_eq_some_iff.1 hi).1;rw[hlen]at this;exact this
      simp only[dP,List.getElem?_map,List.getElem?_range gn,Option.map_some,Option.some.injEq]at hi
      subst hi
      rw[List.getElem?_take]at hj
      split at hj
      ·rename_i Cm
       rw[List.getElem?_drop]at hj
       exact⟨Cm,gn,hj⟩
      ·cases hj
     have key:∀(i j:Nat) (c:List T) (t:T),(dP cs off len n)[i]?=some c→c[j]?=some t→t.one=true∧∃v,w.cell? ⟨r,o+off+i*n+j,none⟩=some v∧VR g w t v∧g.κ r (o+off+i*n+j)=.mut b':=by
      intro i j c t hi hj
      obtain⟨h1,h2,h3⟩:=qC i j c t hi hj
      obtain⟨k1,v,k2,k3⟩:=c3 _ _ h3
      have jf:off+i*n+j<cs.length:=(List.getElem?_eq_some_iff.1 h3).1
      refine⟨k1,v,?_,k3,?_⟩
      ·rw[show o+off+i*n+j=o+(off+i*n+j) by omega];exact k2
      ·exact(c2 (o+off+i*n+j) (by omega) (by omega)).1
     have:=VR.sl (g:=g') (w:=w) (k:=.arg) (es:=dP cs off len n) (r:=r) (o:=o+off) (cap:=cap) (n:=n) (fun i j=>(w.cell? ⟨r,o+off+i*n+j,none⟩).getD undef) trivial (by rw[hlen];exact hc)
      (fun c ib=>by
       obtain⟨i,hi,rfl⟩:=List.mem_map.1 ib
       have hi:=List.mem_range.1 hi
       have:i*n+n≤len*n:=by rw[←Nat.succ_mul];exact Nat.mul_le_mul_right n hi
       rw[List.length_take,List.length_drop];omega)
      (fun i j c t hi hj=>by
       obtain⟨k1,v,k2,_,k4⟩:=key i j c t hi hj
       refine⟨k1,?_,by rw[k2];rfl⟩
       simp only[g'];rw[if_pos k4])
      (fun i j c t hi hj=>by
       obtain⟨_,v,k2,k3,_⟩:=key i j c t hi hj
       rw[k2];exact k3.mono le)
     rw[hlen]at this
     exact this
   ·exact hv.mono le
  | _=>exact hv.mono le
 refine⟨g',le,sr,⟨by simp,fun b' y a _ d=>⟨bE a (by rintro rfl;obtain⟨x,hx⟩:=hφ;rw[hx]at d;cases d),d⟩⟩,fun t v hv=>?_⟩
 cases t with
 | bg vs =>
  cases hv with
  | bg hl h2 =>
   refine .bg (by simpa using hl) fun i t v hi pg=>?_
   rw[List.getElem?_map,Option.map_eq_some_iff]at hi
   obtain⟨t',Gr,rfl⟩:=hi
   exact one _ _ (h2 i t' v Gr pg)
 | _=>exact one _ _ hv
end
section
variable {w0 w:World} {g:Ctx} {H:aa}
theorem SR.u1 {b:Nat}{cs:List T}(h:SR w0 g H w)(hb:H[b]?=some (.cells cs))(hφ:∃x,g.φ b=some x) :
  ∃g',Le g w g' w∧SR w0 g' (H.set b (.fz cs)) w∧Fr g H g' (H.set b (.fz cs)):=by
 let g':Ctx:={ g with κ:=fun r o=>if g.κ r o=.mut b then .cG else g.κ r o }
 have le:Le g w g' w:=⟨fun _ _ h=>h,fun r o e=>by simp only[g'];rw[e];simp,fun _ _ _ h=>h,fun _ _ _ _ h=>h,rfl⟩
 have fo:b<H.length:=(List.getElem?_eq_some_iff.1 hb).1
 have tr:Tr w w (fun _ _=>False) (fun _=>False):=⟨⟨Nat.le_refl _,fun _ _ _ _=>rfl,fun _ _ _ h=>h,fun _ _ _ _ h=>h,fun _ _ _ _=>rfl,rfl,rfl⟩,fun _ _ _=>rfl⟩
 have sr:SR w0 g' (H.set b (.fz cs)) w:=by
  refine h.step (fun b'=>b'=b) tr le (fun _ _ h=>h.elim) (fun _ h=>h.elim) (fun r o hr=>?_) (fun b' x hx=>?_) (fun t e x hx=>?_) (fun _ _ _=>rfl) (fun r j b' aG=>⟨fun e=>?_,fun e=>?_⟩) (fun _ _ _ _=>rfl) (fun b' x hx=>?_)
  ·simp only[g'];rw[h.fresh r o hr];simp
  ·rw[List.length_set];exact h.gQ b' x hx
  ·rw[List.length_set];exact h.cq t e x hx
  ·simp only[g'];rw[e,if_neg (by simpa using aG)]
  ·simp only[g'];rw[e,if_neg (by simp)]
  ·rcases bj fo hx with⟨rfl,rfl⟩|⟨aG,en⟩
   ·refine .inr fun r o q hq=>?_
    obtain⟨c1,c2,c3⟩:=h.du _ _ hb r o q hq
    refine⟨c1,fun i t hi=>?_⟩
    have gn:i<cs.length:=(List.getElem?_eq_some_iff.1 hi).1
    obtain⟨k1,v,k2,k3⟩:=c3 i t hi
    refine⟨k1,v,⟨?_,k2⟩,k3.mono le⟩
    simp only[g'];rw[if_pos (c2 (o+i) (by omega) (by omega)).1]
   ·exact .inl ⟨aG,en⟩
 exact⟨g',le,sr,⟨by simp,fun b' y a _ d=>⟨bE a (by rintro rfl;obtain⟨x,hx⟩:=hφ;rw[hx]at d;cases d),d⟩⟩⟩
theorem fR (cs:List T)(off len n:Nat):(dP cs off len n).length=len:=by simp[dP]
theorem qF {cs:List T}{off len n i j:Nat}{c:List T}{t:T}(hi:(dP cs off len n)[i]?=some c)(hj:c[j]?=some t):j<n∧i<len∧cs[off+i*n+j]?=some t:=by
 have gn:i<len:=by have:=(List.getElem?_eq_some_iff.1 hi).1;rw[fR]at this;exact this
 simp only[dP,List.getElem?_map,List.getElem?_range gn,Option.map_some,Option.some.injEq]at hi
 subst hi
 rw[List.getElem?_take]at hj
 split at hj
 ·rename_i Cm
  rw[List.getElem?_drop]at hj
  exact⟨Cm,gn,hj⟩
 ·cases hj
theorem SR.u2 {b len n:Nat}{cs:List T}{v:Value}(h:SR w0 g H w)(hb:H[b]?=some (.cells cs))(hv:VR g w (.aQ b 0 len n) v)(hlen:len*n=cs.length)(h0:0<len) :
  ∃g',Le g w g' w∧SR w0 g' (H.set b (.fz cs)++[.tok len]) w∧Fr g H g' (H.set b (.fz cs)++[.tok len])∧∀v,VR g w (.aQ b 0 len n) v→VR g' w (.sl (.own H.length len) (dP cs 0 len n)) v:=by
 obtain⟨r,o,q,hφ⟩:∃r o q,g.φ b=some (r,o,q):=by cases hv with|aQ hp=>exact⟨_,_,_,hp⟩
 obtain⟨c1,c2,c3⟩:=h.du _ _ hb r o q hφ
 have fo:b<H.length:=(List.getElem?_eq_some_iff.1 hb).1
 let g':Ctx:={ g with κ:=fun r' o'=>if g.κ r' o'=.mut b then(if r'=r∧o+cs.length≤o'∧o'<q then .spare H.length else .cG)else g.κ r' o',π:=fun t e=>if t=H.length then(if e=len then some (r,o+cs.length,q)else none)else g.π t e }
 have Gs:∀e,g.π H.length e=none:=fun e=>by
  cases hp:g.π H.length e with
  | none=>rfl
  | some x=>exact absurd (h.cq _ _ _ hp) (Nat.lt_irrefl _)
 have le:Le g w g' w:=⟨fun _ _ h=>h,fun r o e=>by simp only[g'];rw[e];simp,fun t e x hx=>by
  simp only[g'];rw[if_neg (by rintro rfl;rw[Gs]at hx;cases hx)];exact hx,fun _ _ _ _ h=>h,rfl⟩
 have tr:Tr w w (fun _ _=>False) (fun _=>False):=⟨⟨Nat.le_refl _,fun _ _ _ _=>rfl,fun _ _ _ h=>h,fun _ _ _ _ h=>h,fun _ _ _ _=>rfl,rfl,rfl⟩,fun _ _ _=>rfl⟩
 have cG:∀i,i<cs.length→g'.κ r (o+i)=.cG:=fun i hi=>by
  simp only[g'];rw[if_pos (c2 (o+i) (by omega) (by omega)).1,if_neg (by omega)]
 have sr:SR w0 g' (H.set b (.fz cs)++[.tok len]) w:=by
  refine h.step (fun b'=>b'=b∨b'=H.length) tr le (fun _ _ h=>h.elim) (fun _ h=>h.elim) (fun r o hr=>?_) (fun b' x hx=>?_) (fun t e x hx=>?_) (fun _ _ _=>rfl) (fun r j b' aG=>⟨fun e=>?_,fun e=>?_⟩) (fun t e _ ht=>?_) (fun b' x hx=>?_)
  ·simp only[g'];rw[h.fresh r o hr];simp
  ·have:=h.gQ b' x hx;simp;omega
  ·simp only[g']at hx
   split at hx
   ·rename_i e;subst e;simp
   ·have:=h.cq t e x hx;simp;omega
  ·simp only[g'];rw[e,if_neg (by simpa using fun e=>aG (.inl e))]
  ·simp only[g'];rw[e,if_neg (by simp)]
  ·simp only[g'];rw[if_neg (fun e=>ht (.inr e))]
  ·by_cases e:b'=H.length
   ·subst e
    have:(H.set b (.fz cs)++[B.tok len])[H.length]?=some (.tok len):=by rw[show H.length=(H.set b (.fz cs)).length by simp];exact bm _ _
    rw[this]at hx;cases hx
    refine .inr ⟨r,o+cs.length,q,by simp[g'],c1,fun j a c=>⟨?_,(c2 j (by omega) c).2⟩,fun e' he=>?_⟩
    ·simp only[g',true_and];rw[if_pos (c2 j (by omega) c).1,if_pos ⟨a,c⟩]
    ·simp only[g',if_true];rw[if_neg (by omega)]
   ·have en:(H.set b (.fz cs))[b']?=some x:=aN (by simpa using e) hx
    rcases bj fo en with⟨rfl,rfl⟩|⟨aG,en⟩
    ·refine .inr fun r' o' q' hq=>?_
     have e1:g.φ b'=some (r',o',q'):=hq
     rw[hφ]at e1;cases e1
     refine⟨c1,fun i t hi=>?_⟩
     have gn:i<cs.length:=(List.getElem?_eq_some_iff.1 hi).1
     obtain⟨k1,v,k2,k3⟩:=c3 i t hi
     exact⟨k1,v,⟨cG i gn,k2⟩,k3.mono le⟩
    ·exact .inl ⟨fun e'=>e'.elim aG e,en⟩
 refine⟨g',le,sr,⟨by simp,fun b' y a _ d=>⟨bh (bE a (by rintro rfl;rw[hφ]at d;cases d)),d⟩⟩,fun v hv=>?_⟩
 cases hv with
 | @aQ _ _ _ _ r1 o1 q1 cap hp hc hq =>
  rw[hφ]at hp;cases hp
  have key:∀(i j:Nat) (c:List T) (t:T),(dP cs 0 len n)[i]?=some c→c[j]?=some t→t.one=true∧∃v,w.cell? ⟨r,o+i*n+j,none⟩=some v∧VR g w t v∧g'.κ r (o+i*n+j)=.cG:=by
   intro i j c t hi hj
   obtain⟨_,_,h3⟩:=qF hi hj
   obtain⟨k1,v,k2,k3⟩:=c3 _ _ h3
   have jf:0+i*n+j<cs.length:=(List.getElem?_eq_some_iff.1 h3).1
   refine⟨k1,v,?_,k3,?_⟩
   ·rw[show o+i*n+j=o+(0+i*n+j) by omega];exact k2
   ·rw[show o+i*n+j=o+(i*n+j) by omega];exact cG _ (by omega)
  have:=VR.sl (g:=g') (w:=w) (k:=.own H.length len) (es:=dP cs 0 len n) (r:=r) (o:=o) (cap:=cap) (n:=n) (fun i j=>(w.cell? ⟨r,o+i*n+j,none⟩).getD undef)
   (by
    rw[fR]
    refine⟨?_,h0⟩
    simp only[g']
    simp only[if_true]
    rw[hlen]
    have:o+cap*n=q:=by omega
    rw[this])
   (by rw[fR];exact hc)
   (fun c ib=>by
    obtain⟨i,hi,rfl⟩:=List.mem_map.1 ib
    have hi:=List.mem_range.1 hi
    have:i*n+n≤len*n:=by rw[←Nat.succ_mul];exact Nat.mul_le_mul_right n hi
    rw[List.length_take,List.length_drop];omega)
   (fun i j c t hi hj=>by
    obtain⟨k1,v,k2,_,k4⟩:=key i j c t hi hj
    exact⟨k1,k4,by rw[k2];rfl⟩)
   (fun i j c t hi hj=>by
    obtain⟨_,v,k2,k3,_⟩:=key i j c t hi hj
    rw[k2];exact k3.mono le)
  rw[fR]at this
  exact this
theorem Vw.ok {t t':T}(hv:Vw H t t')(h:SR w0 g H w):∀v,VR g w t v→VR g w t' v:=by
 induction hv with
 | refl t=>exact fun v hv=>hv
 | @ms b off len n cs es src hb hl hn hle h1 h2 ih =>
  intro v hv
  cases hv with
  | @aQ _ _ _ _ r o q cap hp hc hq =>
   have hf:=h.du _ _ hb r o q hp
   have key:∀(i j:Nat) (c:List T) (t':T),es[i]?=some c→c[j]?=some t'→t'.one=true∧∃v,mF g w r (o+off+i*n+j) v∧VR g w t' v:=by
    intro i j c t' hi hj
    obtain⟨k1,k2⟩:=h1 i j c t' hi hj
    obtain⟨_,v,k3,k4⟩:=hf.2 _ _ k1
    exact⟨k2,v,by rw[show o+off+i*n+j=o+(off+i*n+j) by omega];exact k3,ih i j c t' hi hj v k4⟩
   have:=VR.sl (g:=g) (w:=w) (k:=.arg) (es:=es) (r:=r) (o:=o+off) (cap:=cap) (n:=n) (fun i j=>(w.cell? ⟨r,o+off+i*n+j,none⟩).getD undef) trivial (by rw[hl];exact hc) hn
    (fun i j c t' hi hj=>by
     obtain⟨k1,v,k2,_⟩:=key i j c t' hi hj
     refine⟨k1,k2.1,?_⟩
     rw[k2.2];rfl)
    (fun i j c t' hi hj=>by
     obtain⟨_,v,k2,k3⟩:=key i j c t' hi hj
     rw[k2.2];exact k3)
   rw[hl]at this
   exact this
end
def bq (P:Program)(f:FuncId):Bool :=
 match P.funcs[f]? with
 | some fn=>fn.name != "runtime.NumGoroutine"&&fn.body.isSome
 | none=>false
def bH (P:Program)(mu:Bool):Op→Option tn
 | .call { callee:=.value (.func f),args,.. }=>if bq P f then(b9 args.toList).map (.call f)else match nR P f,b9 args.toList with
  | some n,some [x,y]=>some (.b (.yV n x y))
  | _,_=>none
 | .call { callee:=.value (.tmp t),args,.. }=>(b9 args.toList).map (.a6 (.r t))
 | op=>(aA P mu op).map .b
def wm:Op→Bool
 | .defer _=>false
 | _=>true
def ba (P:Program)(mu:Bool)(op:Op):Option tn:=match bH P mu op with
 | some y=>some y
 | none=>if mu&&wm op then some (.a6 (.c .di) [])else none
def jG (ops:Array Oper):Option (Nat×Bool)→Option Gd
 | none=>some none
 | some (j,b)=>match (ops[j]?).bind (·.dst)with
  | some d=>some (some (d,b))
  | none=>none
def bn:X→List Nat
 | .r t=>[t]
 | .c _=>[]
def gw:Option X→List Nat
 | some x=>bn x
 | none=>[]
def nW:Bo→List Nat
 | .al x | .un _ x | .fD _ x | .vX x | .vY _ x | .len _ x | .box x | .ld _ _ x | .nE _ x | .zi _ _ _ x | .ext _ x | .ke x | .cap x | .v5 x | .gO x | .v7 x | .zk _ _ x=>bn x
 | .bin _ x y | .eM _ _ x y | .beq _ x y | .eqs _ _ x y | .st _ x y | .jd _ x y | .vZ _ _ x y | .zj x y | .B5 _ _ _ x y | .gZ _ _ _ x y | .del _ x y | .app _ _ _ x y | .B6 _ _ _ x y | .mn x y | .mx x y | .tI _ x y | .yV _ x y | .zl _ _ _ x y=>bn x++bn y
 | .pick x y z | .oN _ x y z=>bn x++bn y++bn z
 | .build _ ps=>ps.flatMap fun p=>bn p.2.2
 | .kQ _ _ ps | .xo _ _ ps=>ps.flatMap fun p=>bn p.2
 | .xn x lo hi=>bn x++gw lo++gw hi
 | .kR _ x lo hi mx=>bn x++gw lo++gw hi++gw mx
 | .B7 _ x hi=>bn x++bn hi
 | .v3 _ l=>l.flatMap bn
 | .alloc _ | .nF=>[]
def lH:tn→List Nat
 | .b b=>nW b
 | .call _ as=>as.flatMap bn
 | .a6 f as=>bn f++as.flatMap bn
def e8:Gd→List Nat
 | some (t,_)=>[t]
 | none=>[]
def bP (l:List Operand):List Nat:=l.filterMap fun | .tmp t=>some t|_=>none
def tmpsOf (o:Oper)(op:tn)(g:Gd):List Nat:=bP o.op.operands.toList++(e8 g++lH op)
def bW (P:Program)(n:Nat)(ops:Array Oper)(mu:Bool)(o:Oper)(gP:List Rd):Option O :=
 match ba P mu o.op,jG ops o.guard with
 | some op,some g=>if (tmpsOf o op g).all (·<n)&&(o.dst.all (·<n))then some ⟨o.dst,op,g,gP⟩else none
 | _,_=>none
def cm (P:Program)(n:Nat)(ops:Array Oper)(mu:Nat→Bool):List Nat→Option (List O)
 | []=>some []
 | i :: is=>match ops[i]? with
  | some o=>match bW P n ops (mu i) o [],cm P n ops mu is with
   | some o,some l=>some (o :: l)
   | _,_=>none
  | none=>none
def aV (o:Oper):List Nat:=(o.after.toList.filter fun e=>Region.binds .any e).map (·.on)
def dW (acc:List Nat)(o:Oper):Nat:=(aV o).foldl (fun s j=>s ||| 2^j ||| acc.getD j 0) 0
def bM:List Oper→List Nat→List Nat
 | [],acc=>acc
 | o :: l,acc=>bM l (acc++[dW acc o])
inductive Kl where|pure|read|make|wo
 deriving DecidableEq
def gx:Bo→Kl
 | .al _ | .pick _ _ _ | .bin _ _ _ | .beq _ _ _ | .eqs _ _ _ _ | .un _ _ | .fD _ _ | .build _ _ | .kQ _ _ _ | .nE _ _ | .zi _ _ _ _ | .jd _ _ _ | .vZ _ _ _ _ | .zj _ _ | .B5 _ _ _ _ _ | .xn _ _ _ | .kR _ _ _ _ _
 | .v3 _ _ | .ext _ _ | .mn _ _ | .mx _ _ | .ke _=>.pure
 | .eM _ c _ _=>if c=.slice then .wo else .pure
 | .ld _ _ _ | .gZ _ _ _ _ _ | .len _ _ | .vX _=>.read
 | .alloc _ | .nF=>.make
 | _=>.wo
def tD (o:O):Kl:=match o.op with
 | .b b=>match o.d with|some _=>gx b|none=>.wo
 | _=>.wo
structure It where
 i:Nat
 o:O
 early:Bool
 ts:List Nat
def dv (b:Nat):List It→List Rd
 | []=>[]
 | y :: l=>match y.early,y.o.d,y.o.op with
  | true,some d,.b op=>if gx op=.read∧b.testBit y.i=false then⟨d,op,y.o.g⟩ :: dv b l else dv b l
  | _,_,_=>dv b l
def m9:Op→Bool
 | .alloc _ | .makeMap _ none=>true
 | _=>false
def qG (b:Nat)(before:List It)(x:It)(oper:Oper):Bool :=
 ((aV oper).all fun j=>decide (j<x.i)&&before.any (·.i==j)) &&
 (before.all fun y=>y.early||b.testBit y.i) &&
 (before.all fun y=>y.i != x.i) &&
 (match x.o.d with
  | some d=>(before.all fun y=>y.o.d != some d&&(!y.ts.contains d||(!x.early&&b.testBit y.i)))&&!x.ts.contains d
  | none=>true) &&
 (before.all fun y=>match y.o.d with
  | some d=>!x.ts.contains d||b.testBit y.i
  | none=>true) &&
 (!x.early||(tD x.o != .wo&&(tD x.o != .make||m9 oper.op)))
def na (P:Program)(n:Nat)(ops:Array Oper)(mu:Nat→Bool)(b:Nat)(before:List It)(x:Nat×Bool):Option It :=
 match ops[x.1]? with
 | some o=>match bW P n ops (mu x.1) o (if x.2 then []else dv b before)with
  | some o'=>let y:It:=⟨x.1,o',x.2,tmpsOf o o'.op o'.g⟩
   if qG b before y o then some y else none
  | none=>none
 | none=>none
def bA (P:Program)(n:Nat)(ops:Array Oper)(mu:Nat→Bool)(bs:List Nat)(before:List It):List (Nat×Bool)→Option (List It)
 | []=>if (List.range ops.size).all fun i=>before.any (·.i==i)then some []else none
 | x :: l=>match na P n ops mu (bs.getD x.1 0) before x with
  | some y=>(bA P n ops mu bs (before++[y]) l).map (y :: ·)
  | none=>none
structure An where
 mu:List (Nat×Nat)
 ord:List (Nat×List (Nat×Bool))
def aw (P:Program)(n:Nat)(an:An)(top:Bool):Code→Option C
 | .skip=>some .skip
 | .region id ops false=>(cm P n ops (fun i=>an.mu.contains (id,i)) (List.range ops.size)).map .ops
 | .region id ops true=>match an.ord.find? (·.1==id)with
  | some (_,ord)=>(bA P n ops (fun i=>an.mu.contains (id,i)) (bM ops.toList []) [] ord).map fun dL=>.ops (dL.map (·.o))
  | none=>none
 | .seq a b=>match aw P n an top a,aw P n an top b with
  | some a,some b=>some (.seq a b)
  | _,_=>none
 | .cond c a b=>match aj c,aw P n an top a,aw P n an top b with
  | some x,some a,some b=>if (match c with | .tmp t=>decide (t<n)|_=>true)then some (.cond x a b)else none
  | _,_,_=>none
 | .block id a=>(aw P n an top a).map (.block id)
 | .loop a=>(aw P n an top a).map .loop
 | .exit id=>some (.exit id)
 | .ret=>some .ret
 | .rangeFunc g ps bf body=>match aj g,aw P n an false bf,aw P n an false body with
  | some x,some a,some b=>if top&&(bn x).all (·<n)&&ps.toList.all (·<n)then some (.bo n x ps.toList a b)else none
  | _,_,_=>none
 | _=>none
def fS (P:Program):List ResultVar→Option (List Rs)
 | []=>some []
 | .tmp t :: l=>(fS P l).map (.t t :: ·)
 | .cell a t :: l=>match P.underlying t,P.info? t with
  | some d,some i=>(fS P l).map (.cl a (if bC d then i.size else 1) (bC d) :: ·)
  | _,_=>none
def ph (n:Nat):Rs→Bool
 | .t r | .cl r _ _=>r<n
def af (P:Program)(an:An)(f:FuncId):Option Fn :=
 match P.funcs[f]? with
 | some fn=>match fn.body,fS P fn.results.toList with
  | some c,some res=>match aw P fn.ntmps an true c with
   | some c=>if bq P f&&decide (fn.params.size+fn.nfree≤fn.ntmps)&&res.all (ph fn.ntmps)then some ⟨fn.ntmps,fn.params.size+fn.nfree,res,c⟩else none
   | none=>none
  | _,_=>none
 | none=>none
section
variable {R R':ai} {H:aa}
theorem a0 {x:X}(h:∀t∈bn x,R t=R' t):x.ev R=x.ev R':=by
 cases x with
 | r t=>exact h t (by simp[bn])
 | c v=>rfl
theorem eP {x:Option X}{d:Nat}(h:∀t∈gw x,R t=R' t):cU R d x=cU R' d x:=by
 cases x with
 | none=>rfl
 | some x=>simp only[cU];rw[a0 h]
theorem fT:∀(ps:List (Nat×Nat×X)),(∀t∈ps.flatMap (fun p=>bn p.2.2),R t=R' t)→bU R ps=bU R' ps
 | [],_=>rfl
 | (off,n,x) :: ps,h=>by
  simp only[bU]
  rw[a0 (x:=x) (R':=R') (fun t ht=>h t (by simp[ht])),fT ps (fun t ht=>h t (by rw[List.flatMap_cons];exact List.mem_append_right _ ht))]
theorem gJ (n:Nat):∀(ps:List (Nat×X)) (es:List (List T)),(∀t∈ps.flatMap (fun p=>bn p.2),R t=R' t)→dA n es R ps=dA n es R' ps
 | [],_,_=>rfl
 | (i,x) :: ps,es,h=>by
  simp only[dA]
  rw[a0 (x:=x) (R':=R') (fun t ht=>h t (by simp[ht]))]
  split
  ·split
   ·exact gJ n ps _ (fun t ht=>h t (by rw[List.flatMap_cons];exact List.mem_append_right _ ht))
   ·rfl
  ·rfl
theorem gK (n:Nat):∀(ps:List (Nat×X)) (es:List (List T)),(∀t∈ps.flatMap (fun p=>bn p.2),R t=R' t)→dB n es R ps=dB n es R' ps
 | [],_,_=>rfl
 | (i,x) :: ps,es,h=>by
  simp only[dB]
  rw[a0 (x:=x) (R':=R') (fun t ht=>h t (by simp[ht]))]
  split
  ·split
   ·exact gK n ps _ (fun t ht=>h t (by rw[List.flatMap_cons];exact List.mem_append_right _ ht))
   ·rfl
  ·rfl
theorem iy:∀(l:List X),(∀t∈l.flatMap bn,R t=R' t)→l.map (X.ev R)=l.map (X.ev R')
 | [],_=>rfl
 | x :: l,h=>by
  simp only[List.map_cons]
  rw[a0 (x:=x) (R':=R') (fun t ht=>h t (by simp[ht])),iy l (fun t ht=>h t (by rw[List.flatMap_cons];exact List.mem_append_right _ ht))]
theorem iz {b:Bo}(h:∀t∈nW b,R t=R' t):ae R H b=ae R' H b:=by
 cases b<;>simp only[nW,List.mem_append]at h
 case build z ps=>simp only[ae];rw[fT ps h]
 case kQ n z ps=>simp only[ae];rw[gJ _ ps _ h]
 case xo n z ps=>simp only[ae];rw[gK _ ps _ h]
 case v3 f l=>simp only[ae,v8];rw[iy l h]
 case alloc=>rfl
 case nF=>rfl
 case xn x lo hi =>
  have h1:=a0 (x:=x) (R:=R) (R':=R') (fun t ht=>h t (.inl (.inl ht)))
  have h2:=fun d=>eP (x:=lo) (d:=d) (R:=R) (R':=R') (fun t ht=>h t (.inl (.inr ht)))
  have h3:=fun d=>eP (x:=hi) (d:=d) (R:=R) (R':=R') (fun t ht=>h t (.inr ht))
  simp only[ae,h1,h2,h3]
 case kR n x lo hi mx =>
  have hm:∀m,mx=some m→m.ev R=m.ev R':=fun m e=>a0 (fun t ht=>h t (.inr (by subst e;exact ht)))
  have h1:=a0 (x:=x) (R:=R) (R':=R') (fun t ht=>h t (.inl (.inl (.inl ht))))
  have h2:=fun d=>eP (x:=lo) (d:=d) (R:=R) (R':=R') (fun t ht=>h t (.inl (.inl (.inr ht))))
  have h3:=fun d=>eP (x:=hi) (d:=d) (R:=R) (R':=R') (fun t ht=>h t (.inl (.inr ht)))
  simp only[ae,h1,h2,h3]
  cases mx with
  | none =>
   cases x.ev R' with
   | sl k es=>dsimp only;cases cU R' 0 lo with
    | none=>rfl
    | some l=>cases cU R' es.length hi<;>rfl
   | aQ b off len n'=>rfl
   | _=>rfl
  | some m =>
   cases x.ev R' with
   | sl k es=>dsimp only;cases cU R' 0 lo with
    | none=>rfl
    | some l=>cases cU R' es.length hi with
     | none=>rfl
     | some h=>dsimp only;rw[hm m rfl]
   | aQ b off len n'=>rfl
   | _=>rfl
 all_goals first
  | (simp only[ae,a0 h];done)
  | (rename_i x;simp only[ae];rw[a0 (x:=x) (R':=R') h])
  | (rename_i x y;simp only[ae];rw[a0 (x:=x) (R':=R') (fun t ht=>h t (.inl ht)),a0 (x:=y) (R':=R') (fun t ht=>h t (.inr ht))])
  | (rename_i x y z;simp only[ae];rw[a0 (x:=x) (R':=R') (fun t ht=>h t (.inl (.inl ht))),a0 (x:=y) (R':=R') (fun t ht=>h t (.inl (.inr ht))),a0 (x:=z) (R':=R') (fun t ht=>h t (.inr ht))])
theorem eE {g:Gd}(h:∀t∈e8 g,R t=R' t):au R g=au R' g:=by
 cases g with
 | none=>rfl
 | some p=>obtain⟨t,b⟩:=p;simp only[au];rw[h t (by simp[e8])]
theorem lI {b:Bo}(hk:gx b=.pure)(H2:aa):ae R H2 b=(ae R H b).map fun p=>(p.1,H2):=by
 cases b<;>simp only[gx]at hk<;>(try (cases hk;done))<;>simp only[ae]
 case kR n x lo hi mx =>
  cases x.ev R with
  | sl k es =>
   dsimp only
   cases cU R 0 lo with
   | none=>rfl
   | some l=>cases cU R es.length hi with
    | none=>rfl
    | some h=>cases mx with
     | none=>dsimp only;split<;>rfl
     | some m=>dsimp only;cases aR (m.ev R)with
      | none=>rfl
      | some m=>dsimp only;split<;>rfl
  | aQ b off len n' =>
   dsimp only
   cases cU R 0 lo with
   | none=>rfl
   | some l=>cases cU R len hi with
    | none=>rfl
    | some h=>cases mx with
     | none=>dsimp only;split<;>rfl
     | some m=>rfl
  | bT b off len n' c =>
   dsimp only
   cases cU R 0 lo with
   | none=>rfl
   | some l=>cases cU R len hi with
    | none=>rfl
    | some h=>cases mx with
     | none=>dsimp only;split<;>rfl
     | some m=>rfl
  | _=>rfl
 all_goals (try rfl)
 all_goals (try (simp[Option.map_map,Function.comp_def];done))
 all_goals (try (simp[Option.map_map,Option.map_bind,Function.comp_def];done))
 all_goals (repeat' split)
 all_goals (try (simp_all [Option.map_map,Function.comp_def];done))
theorem eQ {b:Bo}{v:T}{H':aa}(hk:gx b=.pure)(h:ae R H b=some (v,H')):H'=H∧∀H2,ae R H2 b=some (v,H2):=by
 constructor
 ·have h1:=lI (R:=R) (H:=H) hk H
  rw[h]at h1;simp at h1;exact h1
 ·intro H2;rw[lI (H:=H) hk H2,h];rfl
theorem cO {l:aa}{b:Nat}{x:B}(h:H[b]?=some x):(H++l)[b]?=some x:=by
 rw[List.getElem?_append_left (List.getElem?_eq_some_iff.1 h).1];exact h
theorem u3 {n:Nat}{t:T}{cs:List T}(l:aa)(h:gG H n t=some cs):gG (H++l) n t=some cs:=by
 unfold gG at *
 cases t<;>simp only[]at h ⊢<;>try (first|exact h|cases h)
 rename_i b off
 cases hb:H[b]? with
 | none=>simp[hb]at h
 | some x=>rw[hb]at h;rw[cO hb];exact h
theorem pj {t:T}{es:List (T×T)}(l:aa)(h:cp H t=some es):cp (H++l) t=some es:=by
 unfold cp at *
 cases t<;>simp only[]at h ⊢<;>try (first|exact h|cases h)
 rename_i b
 cases hb:H[b]? with
 | none=>simp[hb]at h
 | some x=>rw[hb]at h;rw[cO hb];exact h
theorem qH {t:T}{k:Lc}{n:Nat}(l:aa)(h:dC H k t=some n):dC (H++l) k t=some n:=by
 unfold dC at *
 cases k<;>cases t<;>simp only[]at h ⊢<;>try (first|exact h|cases h)
 rename_i b
 cases hb:H[b]? with
 | none=>simp[hb]at h
 | some x=>rw[hb]at h;rw[cO hb];exact h
theorem lJ {t:T}{n:Nat}{es:List (List T)}(l:aa)(h:aJ H n t=some es):aJ (H++l) n t=some es:=by
 unfold aJ at *
 cases t<;>simp only[]at h ⊢<;>try (first|exact h|cases h)
 rename_i b off len n'
 cases hb:H[b]? with
 | none=>simp[hb]at h
 | some x=>rw[hb]at h;rw[cO hb];exact h
theorem eR {b:Bo}{v:T}{H':aa}(hk:gx b=.read)(h:ae R H b=some (v,H')):H'=H∧∀l,ae R (H++l) b=some (v,H++l):=by
 cases b<;>simp only[gx]at hk<;>(try (cases hk;done))<;>simp only[ae]at h ⊢
 case eM=>split at hk<;>cases hk
 case vX x =>
  cases he:aJ H 1 (x.ev R)with
  | none=>simp[he]at h
  | some es =>
   rw[he]at h
   refine⟨?_,fun l=>?_⟩
   ·dsimp only at h;split at h
    ·cases h
    ·simp only[Option.map_eq_some_iff,Prod.mk.injEq]at h;obtain⟨_,_,_,e⟩:=h;exact e.symm
   ·rw[lJ l he]
    dsimp only at h ⊢;split at h
    ·cases h
    ·simp only[Option.map_eq_some_iff,Prod.mk.injEq]at h ⊢
     obtain⟨a,h1,h2,_⟩:=h
     rename_i aG
     exact⟨a,h1,h2,trivial⟩
 case len k x =>
  simp only[Option.map_eq_some_iff,Prod.mk.injEq]at h ⊢
  obtain⟨a,h1,h2,h3⟩:=h
  exact⟨h3.symm,fun l=>⟨a,qH l h1,h2,trivial⟩⟩
 case ld n ag x =>
  cases he:gG H n (x.ev R)with
  | none=>simp[he]at h
  | some cs =>
   simp only[he,Option.map_eq_some_iff,Prod.mk.injEq]at h
   obtain⟨a,h1,h2,h3⟩:=h
   exact⟨h3.symm,fun l=>by simp[u3 l he,h1,h2]⟩
 case gZ kt z ok m k =>
  split at h
  ·rename_i hh
   simp only[hh,if_true]
   cases he:cp H (m.ev R)with
   | none=>simp[he]at h
   | some es =>
    simp only[he]at h
    simp only[pj _ he]
    split at h
    ·split at h
     ·cases h;exact⟨rfl,fun l=>rfl⟩
     ·cases h
    ·cases h;exact⟨rfl,fun l=>rfl⟩
    ·cases h
  ·cases h
end
theorem lK:∀(l:List Oper) (acc:List Nat),∃rest,bM l acc=acc++rest∧rest.length=l.length
 | [],acc=>⟨[],by simp[bM],rfl⟩
 | o :: l,acc=>by
  obtain⟨r,h,hl⟩:=lK l (acc++[dW acc o])
  exact⟨dW acc o :: r,by simp[bM,h],by simp[hl]⟩
theorem lL:∀(l:List Oper) (acc:List Nat) (k:Nat) (o:Oper),l[k]?=some o→(bM l acc)[acc.length+k]?=some (dW ((bM l acc).take (acc.length+k)) o)
 | [],_,_,_,h=>by simp at h
 | x :: l,acc,0,o,h=>by
  simp at h;subst h
  obtain⟨r,h,_⟩:=lK l (acc++[dW acc x])
  simp[bM,h]
 | x :: l,acc,k+1,o,h=>by
  have:=lL l (acc++[dW acc x]) k o (by simpa using h)
  simp only[List.length_append,List.length_singleton]at this
  simp only[bM]
  rw[show acc.length+(k+1)=acc.length+1+k by omega]
  exact this
theorem jH (acc:List Nat)(t:Nat):∀(l:List Nat) (s:Nat),(l.foldl (fun s j=>s ||| 2^j ||| acc.getD j 0) s).testBit t=true→s.testBit t=true∨∃j∈l,t=j∨(acc.getD j 0).testBit t=true
 | [],s,h=>.inl h
 | x :: l,s,h=>by
  rcases jH acc t l _ h with h|⟨j,hj,h⟩
  ·simp only[Nat.testBit_or,Bool.or_eq_true,Nat.testBit_two_pow,decide_eq_true_eq]at h
   rcases h with(h|h)|h
   ·exact .inl h
   ·exact .inr ⟨x,by simp,.inl h.symm⟩
   ·exact .inr ⟨x,by simp,.inr h⟩
  ·exact .inr ⟨j,by simp[hj],h⟩
theorem lM {acc:List Nat}{o:Oper}{t:Nat}(h:(dW acc o).testBit t=true):∃j∈aV o,t=j∨(acc.getD j 0).testBit t=true:=by
 rcases jH acc t _ _ h with h|h
 ·simp at h
 ·exact h
theorem lN {ops:Array Oper}{D:Nat→Prop}(hD:∀i o,ops[i]?=some o→D i→∀j∈aV o,j<i∧D j) :
  ∀(i:Nat) (o:Oper) (t:Nat),ops[i]?=some o→(∀j∈aV o,j<i∧D j)→((bM ops.toList []).getD i 0).testBit t=true→D t:=by
 intro i
 induction i using Nat.strongRecOn with
 | _ i ih =>
  intro o t ho hp hb
  have h1:=lL ops.toList [] i o (by simpa using ho)
  simp only[List.length_nil,Nat.zero_add]at h1
  rw[List.getD_eq_getElem?_getD,h1,Option.getD_some]at hb
  obtain⟨j,hj,h⟩:=lM hb
  obtain⟨aD,Fs⟩:=hp j hj
  rcases h with rfl|h
  ·exact Fs
  ·rw[List.getD_eq_getElem?_getD,List.getElem?_take,if_pos aD,←List.getD_eq_getElem?_getD]at h
   have gn:i<ops.size:=(Array.getElem?_eq_some_iff.1 ho).1
   have Ft:ops[j]?=some ops[j]:=Array.getElem?_eq_getElem (Nat.lt_trans aD gn)
   exact ih j aD ops[j] t Ft (fun k hk=>hD j _ Ft Fs k hk) h
def Fw (r:Option Nat):Fence:={ fn:=fun _=>True,depth:=none,alive:=false,round:=r }
theorem lO {r r':Option Nat}{n:Nat}{P:Program}{f:FuncId}{args:Array Value}{w:World}{K:Ending→World→Prop}(h:CallsIn (Fw r) n P f args w K):CallsIn (Fw r') n P f args w K:=h
section
variable {P:Program} {w0 w:World} {g:Ctx} {H H':aa} {R:ai} {a:Act} {n:Nat} {ops:Array Oper}
theorem aq {mu:Bool}{o:Oper}{st:List Rd}{y:O}(h:bW P n ops mu o st=some y):∃op gd,ba P mu o.op=some op∧jG ops o.guard=some gd∧y=⟨o.dst,op,gd,st⟩ ∧
  (∀t∈tmpsOf o op gd,t<n)∧∀d,o.dst=some d→d<n:=by
 unfold bW at h
 cases h1:ba P mu o.op with
 | none=>simp[h1]at h
 | some op=>cases h2:jG ops o.guard with
  | none=>simp[h1,h2]at h
  | some gd =>
   simp only[h1,h2]at h
   split at h
   ·rename_i hh
    simp only[Bool.and_eq_true,List.all_eq_true,decide_eq_true_eq]at hh
    exact⟨op,gd,rfl,rfl,(Option.some.inj h).symm,hh.1,fun d hd=>by have:=hh.2;simp[hd]at this;exact this⟩
   ·cases h
def cy (g:Ctx)(w:World)(R:ai)(a:Act)(ts:List Nat):Prop:=∀t∈ts,VR g w (R t) (a.tmps.getD t undef)
theorem cy.sub {ts xw:List Nat}(h:cy g w R a ts)(hs:∀t∈xw,t∈ts):cy g w R a xw:=fun t ht=>h t (hs t ht)
theorem jI {l:List Operand}(h:cy g w R a (bP l)):RV g w R a.eval l:=by
 intro x hx y hy
 cases x with
 | tmp t=>simp only[aj,Option.some.injEq]at hy;subst hy;exact h t (by simp only[bP,List.mem_filterMap];exact⟨_,hx,rfl⟩)
 | const v =>
  simp only[aj,Option.map_eq_some_iff]at hy
  obtain⟨t,h1,rfl⟩:=hy
  exact eN h1
 | «global» x=>simp[aj]at hy
 | func f=>simp only[aj,Option.some.injEq]at hy;subst hy;exact .fn rfl (by simp)
theorem gy {o:Oper}{gd:Gd}(hg:jG ops o.guard=some gd)(hn:a.tmps.size=n)(hd:∀t∈e8 gd,t<n)(h:cy g w R a (e8 gd)):Region.wanted o (yielded ops a.tmps)=au R gd:=by
 unfold Region.wanted
 cases ho:o.guard with
 | none=>rw[ho]at hg;simp only[jG,Option.some.injEq]at hg;subst hg;rfl
 | some p =>
  obtain⟨j,b⟩:=p
  rw[ho]at hg
  simp only[jG]at hg
  cases eW:(ops[j]?).bind (·.dst)with
  | none=>simp[eW]at hg
  | some d =>
   simp only[eW,Option.some.injEq]at hg;subst hg
   have hv:=h d (by simp[e8])
   have aD:d<a.tmps.size:=by rw[hn];exact hd d (by simp[e8])
   simp only[yielded,eW,Option.bind_some,au]
   rw[Array.getD_eq_getD_getElem?,Array.getElem?_eq_getElem aD,Option.getD_some]at hv
   rw[Array.getElem?_eq_getElem aD]
   generalize R d=t at *
   generalize a.tmps[d]=v at *
   cases hv<;>simp
theorem dX {mu:Bool}{o:Op}{y:tn}(h:ba P mu o=some y):bH P mu o=some y∨(y=.a6 (.c .di) []∧wm o=true):=by
 unfold ba at h
 split at h
 ·rename_i e;cases h;exact .inl e
 ·split at h
  ·rename_i hc;cases h
   simp only[Bool.and_eq_true]at hc
   exact .inr ⟨rfl,hc.2⟩
  ·cases h
theorem cS {mu:Bool}{o:Op}{op:tn}(h:ba P mu o=some op):∀c,o≠.defer c:=by
 rintro c rfl
 rcases dX h with h|⟨_,h⟩
 ·simp[bH,aA]at h
 ·cases h
theorem dG {mu:Bool}{o:Op}{b:Bo}(h:ba P mu o=some (.b b)):aA P mu o=some b:=by
 replace h:=(dX h).resolve_right fun e=>by cases e.1
 unfold bH at h
 split at h
 ·split at h
  ·simp only[Option.map_eq_some_iff]at h;obtain⟨_,_,h⟩:=h;cases h
  ·split at h
   ·rename_i h1 h2
    cases h
    simp only[aA,h1,h2]
   ·cases h
 ·simp only[Option.map_eq_some_iff]at h;obtain⟨_,_,h⟩:=h;cases h
 ·simp only[Option.map_eq_some_iff]at h;obtain⟨x,h1,h⟩:=h;cases h;exact h1
theorem qI {r:Option Nat}{mu:Bool}{o:Oper}{b:Bo}{t:T}(hc:ba P mu o.op=some (.b b))(h:SR w0 g H w)(hr:cy g w R a (bP o.op.operands.toList))(he:ae R H b=some (t,H')) :
  ∃v w' g',(∀(K:Act→World→Prop) (Q:Exit→Act→World→Prop),K (a.put o.dst v) w'→o.wpIn (Fw r) 0 P a w K Q)∧Le g w g' w'∧SR w0 g' H' w'∧VR g' w' t v∧Fr g H g' H':=by
 obtain⟨nx,v,w',g',h1,h2,h3⟩:=x7 (fun _=>rfl) (dG hc) h (jI hr) he
 refine⟨v,w',g',fun K Q hk=>⟨fun _ _=>trivial,?_⟩,h3⟩
 rw[Oper.semAt_eq _ _ _ (cS hc),h1]
 rcases h2 with rfl|⟨rfl,rfl⟩
 ·exact hk
 ·exact hk
theorem nb {mu:Bool}{o:Op}{x:X}(h:aA P mu o=some (.gO x)):∃it,o=.next it false∧aj it=some x:=by
 cases o
 case next it str =>
  cases str<;>simp only[aA]at h<;>(try (cases h;done))
  simp only[Option.map_eq_some_iff,Bo.gO.injEq]at h
  obtain⟨y,h1,rfl⟩:=h
  exact⟨it,rfl,h1⟩
 case range ty m =>
  simp only[aA]at h
  split at h
  ·simp only[Option.map_eq_some_iff]at h;obtain⟨_,_,h⟩:=h;cases h
  ·cases h
 case makeMap ty r =>
  cases r<;>simp only[aA]at h<;>cases h
 case makeFunc fn first er =>
  cases fn<;>simp only[aA]at h<;>(try (cases h;done))
  split at h
  ·simp only[Option.map_eq_some_iff]at h;obtain⟨_,_,h⟩:=h;cases h
  ·cases h
 case call c =>
  obtain⟨callee,args,dq⟩:=c
  cases callee
  case value x =>
   cases x<;>simp only[aA]at h<;>(try (cases h;done))
   split at h<;>cases h
  case builtin b =>
   simp only[aA,Option.bind_eq_some_iff]at h
   obtain⟨l,_,h⟩:=h
   unfold dF at h
   split at h
   ·have hz:∀tl l b',lD P tl l=some b'→b'≠.gO x:=by
     rintro tl l b' hb rfl
     simp only[lD]at hb
     (repeat' split at hb)<;>first|(cases hb;done)|(simp at hb;done)
    split at h
    ·rename_i b' hb;exact absurd (Option.some.inj h) (hz _ _ _ hb)
    ·simp only[eO]at h
     (repeat' split at h)<;>first|(cases h;done)|(simp at h;done)
   all_goals ((repeat' split at h)<;>first|(cases h;done)|(simp at h;done))
  all_goals (simp only[aA]at h;cases h)
 all_goals simp only[aA]at h
 all_goals first|(cases h;done)|(simp only[Option.map_eq_some_iff]at h;obtain⟨_,_,h⟩:=h;cases h;done)|skip
 all_goals (try simp only[Option.bind_eq_some_iff]at h)
 all_goals (try (obtain⟨_,_,h⟩:=h))
 all_goals (try simp only[qy,jD,jC,ft,m6,gp,o9,gq,pa,pb,m7]at h)
 all_goals first|((repeat' split at h)<;>first|(cases h;done)|(simp at h;done))|skip
theorem qJ {r:Option Nat}{mu:Bool}{o:Oper}{x:X}{b bi:Nat}{es:List (T×T)}{ix:List Nat}{cur:Option Nat}(hc:ba P mu o.op=some (.b (.gO x)))(h:SR w0 g H w)(hr:cy g w R a (bP o.op.operands.toList))
  (hx:x.ev R=.ptr bi 0) (hb:H[b]?=some (.cn es ix bi cur)) :
  ∃t H' v w' g',fH H b bi es ix t H'∧(∀(K:Act→World→Prop) (Q:Exit→Act→World→Prop),K (a.put o.dst v) w'→o.wpIn (Fw r) 0 P a w K Q)∧Le g w g' w'∧SR w0 g' H' w'∧VR g' w' t v∧Fr g H g' H':=by
 have jB:=cS hc
 obtain⟨it,ho,h1⟩:=nb (dG hc)
 have hv:=jI hr it (by rw[ho];simp[Op.operands]) x h1
 rw[hx]at hv
 obtain⟨t,H',hn,v,w',g',aL,h3⟩:=uN (P:=P) (ty:=o.type) h hv hb
 refine⟨t,H',v,w',g',hn,fun K Q hk=>⟨fun _ _=>trivial,?_⟩,h3⟩
 rw[Oper.semAt_eq _ _ _ jB]
 have e:(execOp a.eval o).run P w=.ok (.value v) w':=by
  obtain⟨dst,op,ty,pos,after,guard⟩:=o
  simp only at ho;subst ho
  simp[execOp,aL]
 rw[e]
 exact hk
theorem dY {f:FuncId}{args:Array Value}(hf:bq P f=true):(callFunc f args).run P w=.ok (.enter f args) w:=by
 unfold bq at hf
 cases h:P.funcs[f]? with
 | none=>simp[h]at hf
 | some fn =>
  simp only[h,Bool.and_eq_true,bne_iff_ne,ne_eq]at hf
  obtain⟨c,hb⟩:=Option.isSome_iff_exists.1 hf.2
  simp[callFunc,h,hf.1,hb]
def nf (r:Option Nat)(P:Program)(o:Oper)(a:Act)(K:Act→World→Prop):Ending→World→Prop:=fun e w'=>∃v,e=.returned v∧K (a.put o.dst v) w'
theorem upon_enter {r:Option Nat}{o:Oper}{f:FuncId}{args:Array Value}{K:Act→World→Prop}{Q:Exit→Act→World→Prop}(h:CallsIn (Fw none) 0 P f args w (nf r P o a K)) :
  o.uponIn (Fw r) 0 P a K Q (.ok (.enter f args) w):=by
 rw[Oper.uponIn_enter]
 refine⟨fun h=>by simp[Fw]at h,(lO h).mono fun e w' he=>?_⟩
 obtain⟨v,rfl,hk⟩:=he
 exact hk
theorem kC {mu:Bool}{op:Op}{f:Nat}{as:List X}(h:ba P mu op=some (.call f as)) :
  ∃args dq,op=.call { callee:=.value (.func f),args:=args,argTypes:=dq }∧bq P f=true∧b9 args.toList=some as:=by
 replace h:=(dX h).resolve_right fun e=>by cases e.1
 cases op
 case call c =>
  obtain⟨callee,args,dq⟩:=c
  cases callee
  case value x =>
   cases x
   case func f' =>
    simp only[bH]at h
    split at h
    ·rename_i hc
     simp only[Option.map_eq_some_iff]at h
     obtain⟨tp,h1,h2⟩:=h
     cases h2
     exact⟨args,dq,rfl,hc,h1⟩
    ·split at h<;>cases h
   all_goals simp[bH,aA]at h
  all_goals (simp only[bH,Option.map_eq_some_iff]at h;obtain⟨_,_,h⟩:=h;cases h)
 all_goals (simp only[bH,Option.map_eq_some_iff]at h;obtain⟨_,_,h⟩:=h;cases h)
theorem e9 {mu:Bool}{op:Op}{x:X}{as:List X}(h:ba P mu op=some (.a6 x as))(hx:x≠.c .di) :
  ∃t args dq,x=.r t∧op=.call { callee:=.value (.tmp t),args:=args,argTypes:=dq }∧b9 args.toList=some as:=by
 replace h:=(dX h).resolve_right fun e=>by cases e.1;exact hx rfl
 cases op
 case call c =>
  obtain⟨callee,args,dq⟩:=c
  cases callee
  case value x =>
   cases x
   case tmp t =>
    simp only[bH,Option.map_eq_some_iff]at h
    obtain⟨tp,h1,h2⟩:=h
    cases h2
    exact⟨t,args,dq,rfl,rfl,h1⟩
   case func f' =>
    simp only[bH]at h
    split at h
    ·simp only[Option.map_eq_some_iff]at h
     obtain⟨tp,h1,h2⟩:=h
     cases h2
    ·split at h<;>cases h
   all_goals simp[bH,aA]at h
  all_goals (simp only[bH,Option.map_eq_some_iff]at h;obtain⟨_,_,h⟩:=h;cases h)
 all_goals (simp only[bH,Option.map_eq_some_iff]at h;obtain⟨_,_,h⟩:=h;cases h)
theorem pk {r:Option Nat}{mu:Bool}{o:Oper}{f:Nat}{as:List X}(hc:ba P mu o.op=some (.call f as))(hr:cy g w R a (bP o.op.operands.toList)) :
  ∃args:List Value,ax g w (as.map (X.ev R)) args ∧
   ∀(K:Act→World→Prop) (Q:Exit→Act→World→Prop),bq P f=true→CallsIn (Fw none) 0 P f args.toArray w (nf r P o a K)→o.wpIn (Fw r) 0 P a w K Q:=by
 have jB:=cS hc
 obtain⟨args,dq,ho,dw,h1⟩:=kC hc
 have hv:=cd (ρ:=a.eval) args.toList as h1 (jI (hr.sub fun t ht=>by
  simp only[bP,List.mem_filterMap]at ht ⊢
  obtain⟨x,hx,e⟩:=ht
  exact⟨x,by rw[ho];simp only[Op.operands,Call.operands];simp at hx;simp[hx],e⟩))
 refine⟨args.toList.map a.eval,hv,fun K Q _ hk=>⟨fun _ _=>trivial,?_⟩⟩
 rw[Oper.semAt_eq _ _ _ jB]
 have aL:(execOp a.eval o).run P w=.ok (.enter f (args.toList.map a.eval).toArray) w:=by
  have:=dY (P:=P) (w:=w) (args:=(args.toList.map a.eval).toArray) dw
  have e2:(args.toList.map a.eval).toArray=args.map a.eval:=by rw[←Array.toList_map]
  rw[e2]at this ⊢
  simp only[execOp,ho,resolve,Act.eval,Deferred.ofValue,invoke]
  simpa using this
 rw[aL]
 exact upon_enter hk
theorem ng {r:Option Nat}{mu:Bool}{o:Oper}{x:X}{f:Nat}{cs:List T}{as:List X}(hc:ba P mu o.op=some (.a6 x as))(hr:cy g w R a (bP o.op.operands.toList))(hx:x.ev R=.fn f cs) :
  ∃args:List Value,ax g w (as.map (X.ev R)++cs) args ∧
   ∀(K:Act→World→Prop) (Q:Exit→Act→World→Prop),bq P f=true→CallsIn (Fw none) 0 P f args.toArray w (nf r P o a K)→o.wpIn (Fw r) 0 P a w K Q:=by
 have jB:=cS hc
 obtain⟨t,args,dq,rfl,ho,h1⟩:=e9 hc (by rintro rfl;cases hx)
 have hv:=cd (ρ:=a.eval) args.toList as h1 (jI (hr.sub fun t ht=>by
  simp only[bP,List.mem_filterMap]at ht ⊢
  obtain⟨x,hx,e⟩:=ht
  exact⟨x,by rw[ho];simp only[Op.operands,Call.operands];simp at hx;simp[hx],e⟩))
 have hf:=hr t (by rw[ho];simp only[bP,List.mem_filterMap];exact⟨.tmp t,by simp[Op.operands,Call.operands],rfl⟩)
 simp only[X.ev]at hx
 rw[hx]at hf
 generalize pg:a.tmps.getD t undef=vf at hf
 cases hf with
 | @fn _ _ vs hl kS =>
  refine⟨args.toList.map a.eval++vs.toList,hv.append ⟨by simp[hl],fun i t v ha hb=>kS i t v ha (by simpa using hb)⟩,fun K Q dw hk=>⟨fun _ _=>trivial,?_⟩⟩
  rw[Oper.semAt_eq _ _ _ jB]
  have aL:(execOp a.eval o).run P w=.ok (.enter f (args.toList.map a.eval++vs.toList).toArray) w:=by
   have:=dY (P:=P) (w:=w) (args:=(args.toList.map a.eval++vs.toList).toArray) dw
   have e2:(args.toList.map a.eval++vs.toList).toArray=args.map a.eval++vs:=by rw[←Array.toList_map];simp
   rw[e2]at this ⊢
   have e:a.eval (.tmp t)=.func (.func f) #[] vs:=pg
   simp only[execOp,ho,resolve,e,Deferred.ofValue,invoke]
   simpa using this
  rw[aL]
  exact upon_enter hk
end
def fb:T→Option Nat
 | .ptr b _ | .map b=>some b
 | _=>none
def dZ (R:ai)(y:It):Option Nat:=match y.o.d,y.o.op with
 | some d,.b (.alloc _)=>fb (R d)
 | some d,.b .nF=>fb (R d)
 | _,_=>none
def ji (g:Ctx)(N:Nat)(R:ai)(H:aa)(y:It):Prop :=
 (au R y.o.g=false∧∀d,y.o.d=some d→R d=av) ∨
 (au R y.o.g=true∧∃d b,y.o.d=some d∧y.o.op=.b b∧(
  ((gx b=.pure∨gx b=.read)∧ae R H b=some (R d,H)) ∨
  (∃k z,b=.alloc z∧R d=.ptr k 0∧H[k]?=some (.cells z)∧g.φ k=none∧N≤k) ∨
  (∃k,b=.nF∧R d=.map k∧H[k]?=some (.map [])∧g.φ k=none∧N≤k)))
theorem ji.mono {g g':Ctx}{N:Nat}{R R':ai}{H H':aa}{y:It}(h:ji g N R H y)(hg:∀t∈e8 y.o.g,R' t=R t)(hr:∀t∈lH y.o.op,R' t=R t)(hd:∀d,y.o.d=some d→R' d=R d)
  (zS:∀d b,au R y.o.g=true→y.o.d=some d→y.o.op=.b b→gx b=.read→ae R H b=some (R d,H)→ae R H' b=some (R d,H'))
  (kT:∀k x,dZ R y=some k→H[k]?=some x→(∀e,x≠.tok e)→g.φ k=none→N≤k→H'[k]?=some x∧g'.φ k=none):ji g' N R' H' y:=by
 have hw:au R' y.o.g=au R y.o.g:=eE hg
 rcases h with⟨h1,h2⟩|⟨h1,d,b,h2,h3,h4⟩
 ·exact .inl ⟨hw▸h1,fun d e=>by rw[hd d e];exact h2 d e⟩
 ·refine .inr ⟨hw▸h1,d,b,h2,h3,?_⟩
  rw[hd d h2]
  rw[h3]at hr
  rcases h4 with⟨hk,he⟩|⟨k,z,rfl,e1,e2,e3,e4⟩|⟨k,rfl,e1,e2,e3,e4⟩
  ·refine .inl ⟨hk,?_⟩
   rw[iz (R:=R') (R':=R) hr]
   rcases hk with hk|hk
   ·exact(eQ hk he).2 H'
   ·exact zS d b h1 h2 h3 hk he
  ·have hm:=kT k _ (by simp[dZ,h2,h3,e1,fb]) e2 (by simp) e3 e4
   exact .inr (.inl ⟨k,z,rfl,e1,hm.1,hm.2,e4⟩)
  ·have hm:=kT k _ (by simp[dZ,h2,h3,e1,fb]) e2 (by simp) e3 e4
   exact .inr (.inr ⟨k,rfl,e1,hm.1,hm.2,e4⟩)
theorem iA (a:Act)(d:Option Nat)(v:Value)(t:Nat)(hd:∀e,d=some e→e<a.tmps.size):(a.put d v).tmps.getD t undef=if d=some t then v else a.tmps.getD t undef:=by
 cases d with
 | none=>simp[Act.put]
 | some d =>
  have aD:=hd d rfl
  simp only[Act.put]
  by_cases e:d=t
  ·subst e;simp[Array.getD_eq_getD_getElem?,aD]
  ·rw[if_neg (by simpa using e),Array.getD_eq_getD_getElem?,Array.getD_eq_getD_getElem?,Array.getElem?_setIfInBounds_ne e]
theorem iB (a:Act)(d:Option Nat)(v:Value):(a.put d v).tmps.size=a.tmps.size:=by cases d<;>simp[Act.put]
theorem db (a:Act)(d:Option Nat)(v:Value):(a.put d v).defers=a.defers:=by cases d<;>simp[Act.put]
theorem aP {R:ai}{d:Option Nat}{v:T}{t:Nat}(h:d≠some t):ay R d v t=R t:=by
 cases d with
 | none=>rfl
 | some d=>simp only[ay,jc];rw[if_neg];rintro rfl;exact h rfl
theorem dr {R:ai}{v:T}{t:Nat}:ay R (some t) v t=v:=by simp[ay,jc]
theorem SR.Dc {w0 w:World}{g:Ctx}{H:aa}(h:SR w0 g H w){x:B}(hx:(∃cs,x=.cells cs)∨∃es,x=.map es):SR w0 g (H++[x]) w:=by
 refine⟨h.size,h.ep,h.oU,h.fresh,fun b y hy=>by have:=h.gQ b y hy;simp;omega,fun t e y hy=>by have:=h.cq t e y hy;simp;omega,fun b y hy=>?_,h.env⟩
 by_cases hb:b=H.length
 ·subst hb
  rw[bm]at hy
  have hn:=h.tw (b:=H.length) (Nat.le_refl _)
  cases hy
  rcases hx with⟨cs,rfl⟩|⟨es,rfl⟩<;>intro r o q hq<;>rw[hn]at hq<;>cases hq
 ·exact h.du b y (aN hb hy)
theorem SR.drew {w0 w w':World}{g:Ctx}{H:aa}(h:SR w0 g H w)(tr:Tr w w' cu cW)(hz:w'.heap.size=w.heap.size):SR w0 g H w'∧Le g w g w':=by
 have le:Le g w g w':=Le.cJ tr (fun _ _ h=>h) (fun _ _ h=>h) (fun _ _ _ h=>h) (fun _ _ hs=>hs.elim)
 refine⟨?_,le⟩
 exact h.step (fun _=>False) tr le (fun _ _ hs=>hs.elim) (fun _ hm=>hm.elim) (fun r o hr=>h.fresh r o (by omega)) h.gQ h.cq (fun _ _ _=>rfl) (fun _ _ _ _=>⟨id,id⟩) (fun _ _ _ _=>rfl) (fun b x hx=>.inl ⟨id,hx⟩)
section
variable {P:Program} {w0 w:World} {g:Ctx} {H:aa} {a:Act}
theorem lP {r:Option Nat}{mu:Bool}{o:Oper}{z:List T}{k:Nat}(hm:m9 o.op=true)(hc:ba P mu o.op=some (.b (.alloc z)))(h:SR w0 g H w)(hk:H[k]?=some (.cells z))(hn:g.φ k=none) :
  ∃v w' g',(∀(K:Act→World→Prop) (Q:Exit→Act→World→Prop),K (a.put o.dst v) w'→o.wpIn (Fw r) 0 P a w K Q)∧Le g w g' w'∧SR w0 g' H w'∧VR g' w' (.ptr k 0) v∧∀b,g.φ b=none→b≠k→g'.φ b=none:=by
 obtain⟨dst,op,ty,pos,after,guard⟩:=o
 simp only at hm hc
 have hc:=dG hc
 unfold m9 at hm
 split at hm
 ·rename_i t _
  simp only[aA,Option.map_eq_some_iff]at hc
  obtain⟨z',h1,h2⟩:=hc
  cases h2
  obtain⟨i,zv,h2,h3,h4⟩:=cf h1
  obtain⟨hv,ho⟩:=bu (g:=g) (w:=w) _ _ h4
  have tr:Tr w w cu cW:=Tr.refl w
  obtain⟨le,sr,fr⟩:=h.mut (c:=zv.cells) (ty:=t) (H':=H) (b:=k) tr rfl hk hn (fun b' x _ hx=>.inl hx) (Nat.le_refl _) (fun b' x hx _ _ _=>hx) (by simpa using hv.xH ho)
  refine⟨.pointer (some ⟨w.heap.size,0,none⟩),_,_,fun K Q hk=>⟨fun _ _=>trivial,?_⟩,le,sr,.ptr (r:=w.heap.size) (o:=0) (q:=zv.cells.size) (by simp[Ctx.at]),fun b hb aG=>by simp only[Ctx.at,Ctx.row];rw[if_neg aG];exact hb⟩
  rw[Oper.semAt_eq _ _ _ (by rintro c⟨⟩)]
  have aL:(execOp a.eval ⟨dst,.alloc t,ty,pos,after,guard⟩).run P w=.ok (.value (.pointer (some ⟨w.heap.size,0,none⟩))) (w.alloc (.cells zv.cells t)):=by
   simp[execOp,Instr.alloc,zeroValue,ar h2,h3,newVar,newRow]
  rw[aL]
  exact hk
 ·simp[aA]at hc
 ·cases hm
theorem pn {r:Option Nat}{mu:Bool}{o:Oper}{k:Nat}(hm:m9 o.op=true)(hc:ba P mu o.op=some (.b .nF))(h:SR w0 g H w)(hk:H[k]?=some (.map []))(hn:g.φ k=none) :
  ∃v w' g',(∀(K:Act→World→Prop) (Q:Exit→Act→World→Prop),K (a.put o.dst v) w'→o.wpIn (Fw r) 0 P a w K Q)∧Le g w g' w'∧SR w0 g' H w'∧VR g' w' (.map k) v∧∀b,g.φ b=none→b≠k→g'.φ b=none:=by
 obtain⟨dst,op,ty,pos,after,guard⟩:=o
 simp only at hm hc
 have hc:=dG hc
 unfold m9 at hm
 split at hm
 ·simp[aA]at hc
 ·rename_i t _
  obtain⟨le,sr⟩:=h.qk (H':=H) (b:=k) hk hn (fun b' x _ hx=>hx) (Nat.le_refl _)
  refine⟨.map (some w.heap.size),_,_,fun K Q hk=>⟨fun _ _=>trivial,?_⟩,le,sr,.map (r:=w.heap.size) (o:=0) (q:=0) (by simp[Ctx.at]),fun b hb aG=>by simp only[Ctx.at,Ctx.row];rw[if_neg aG];exact hb⟩
  rw[Oper.semAt_eq _ _ _ (by rintro c⟨⟩)]
  have aL:(execOp a.eval ⟨dst,.makeMap t none,ty,pos,after,guard⟩).run P w=.ok (.value (.map (some w.heap.size))) (w.alloc (.map #[] 0)):=by
   simp[execOp,Instr.makeMap]
  rw[aL]
  exact hk
 ·cases hm
end
theorem Fr.ext (g:Ctx)(H l:aa):Fr g H g (H++l):=⟨by simp,fun b x hx _ hn=>⟨cO hx,hn⟩⟩
structure Dr (P:Program)(n:Nat)(ops:Array Oper)(mu:Nat→Bool)(w0:World)(df:List Deferred)(mk:T)(g0:Ctx)(ws:World)(H0:aa)
  (pre:List It) (L:Array Bool) (g:Ctx) (R:ai) (H:aa) (a:Act) (w:World):Prop where
 ni:L.size=ops.size
 cmp:∀y∈pre,∃o,ops[y.i]?=some o∧(∃st,bW P n ops (mu y.i) o st=some y.o)∧y.ts=tmpsOf o y.o.op y.o.g
 rd:∀y∈pre,∀z∈pre,z.early=true→∀d,z.o.d=some d→d∈y.ts→((bM ops.toList []).getD y.i 0).testBit z.i=true
 dd:∀y∈pre,∀z∈pre,∀d,y.o.d=some d→z.o.d=some d→y.i=z.i
 kl:∀y∈pre,y.early=true→∀o,ops[y.i]?=some o→tD y.o=.make→m9 o.op=true
 uniq:∀y∈pre,∀z∈pre,y.i=z.i→y=z
 jj:∀y∈pre,∀o,ops[y.i]?=some o→∀j∈aV o,j<y.i
 closed:∀i o,ops[i]?=some o→L.getD i false=true→∀j∈aV o,j<i∧L.getD j false=true
 sub:∀i,L.getD i false=true→∃y∈pre,y.i=i
 iC:∀y∈pre,y.early=false→L.getD y.i false=true
 sr:SR w0 g H w
 le:Le g0 ws g w
 fr:Fr g0 H0 g H
 kD:a.tmps.size=n
 kE:∀t,t<n→(∀y∈pre,L.getD y.i false=false→y.o.d≠some t)→VR g w (R t) (a.tmps.getD t undef)
 bz:∀y∈pre,L.getD y.i false=false→ji g H0.length R H y
 inj:∀y∈pre,∀z∈pre,L.getD y.i false=false→L.getD z.i false=false→y.i≠z.i→∀k,dZ R y=some k→dZ R z≠some k
 wq:a.defers=df
 wu:R n=mk
section
variable {P:Program} {n:Nat} {ops:Array Oper} {mu:Nat→Bool} {w0 w ws:World} {df:List Deferred} {mk:T} {g g0:Ctx} {H H0 H':aa} {pre:List It} {L:Array Bool} {R:ai} {a:Act} {r:Option Nat}
theorem eS {i:Nat}(h:i∈Region.ready .any ops L):L.getD i false=false∧∃o,ops[i]?=some o∧∀j∈aV o,L.getD j false=true:=by
 obtain⟨h1,o,h2,h3⟩:=mem_ready.1 h
 refine⟨?_,o,h2,fun j hj=>?_⟩
 ·cases hi:L[i]? with
  | none=>simp[Array.getD_eq_getD_getElem?,hi]at h1
  | some b=>simp[Array.getD_eq_getD_getElem?,hi]at h1 ⊢;exact h1
 ·simp only[aV,List.mem_map,List.mem_filter]at hj
  obtain⟨e,⟨he,hb⟩,rfl⟩:=hj
  exact h3 e (by simpa using he) hb
theorem Dr.bit (h:Dr P n ops mu w0 df mk g0 ws H0 pre L g R H a w){i:Nat}{o:Oper}{t:Nat}(ho:ops[i]?=some o)(hp:∀j∈aV o,j<i∧L.getD j false=true)
  (hb:((bM ops.toList []).getD i 0).testBit t=true):L.getD t false=true :=
 lN (D:=fun i=>L.getD i false=true) h.closed i o t ho hp hb
theorem br {i j:Nat}(hi:i<L.size):(L.setIfInBounds i true).getD j false=if i=j then true else L.getD j false:=by
 by_cases e:i=j
 ·subst e;simp[Array.getD_eq_getD_getElem?,hi]
 ·rw[if_neg e,Array.getD_eq_getD_getElem?,Array.getD_eq_getD_getElem?,Array.getElem?_setIfInBounds_ne e]
theorem cP {o:Oper}{y:It}(h:y.ts=tmpsOf o y.o.op y.o.g):(∀t∈e8 y.o.g,t∈y.ts)∧(∀t∈lH y.o.op,t∈y.ts)∧∀t∈bP o.op.operands.toList,t∈y.ts:=by
 rw[h];unfold tmpsOf
 exact⟨fun t ht=>by simp[ht],fun t ht=>by simp[ht],fun t ht=>by simp[ht]⟩
theorem Dr.look (h:Dr P n ops mu w0 df mk g0 ws H0 pre L g R H a w){i:Nat}{o:Oper}{ts:List Nat}(ho:ops[i]?=some o)(hp:∀j∈aV o,j<i∧L.getD j false=true)(hn:∀t∈ts,t<n)
  (hz:∀z∈pre,z.early=true→∀d,z.o.d=some d→d∈ts→((bM ops.toList []).getD i 0).testBit z.i=true):cy g w R a ts:=by
 intro t ht
 refine h.kE t (hn t ht) fun z iX hu hd=>?_
 cases he:z.early with
 | false=>rw[h.iC z iX he]at hu;cases hu
 | true=>rw[h.bit ho hp (hz z iX he t hd ht)]at hu;cases hu
theorem Dr.late (h:Dr P n ops mu w0 df mk g0 ws H0 pre L g R H a w){y:It}(hy:y∈pre)(hr:y.i∈Region.ready .any ops L) :
  ∃v w' g',(∀(K:Act→World→Prop) (Q:Exit→Act→World→Prop),K (a.put y.o.d v) w'→wpOpIn (Fw r) 0 P ops Q y.i K a w) ∧
   Dr P n ops mu w0 df mk g0 ws H0 pre (L.setIfInBounds y.i true) g' R H (a.put y.o.d v) w':=by
 obtain⟨x8,o,ho,Dd⟩:=eS hr
 obtain⟨o',fp,⟨st,bL⟩,pQ⟩:=h.cmp y hy
 rw[ho]at fp;cases fp
 obtain⟨op,gd,za,Fu,x9,De,zb⟩:=aq bL
 have hd:y.o.d=o.dst:=by rw[x9]
 have zT:y.o.op=op:=by rw[x9]
 have Df:y.o.g=gd:=by rw[x9]
 obtain⟨Gt,IH,Gu⟩:=cP pQ
 have hp:∀j∈aV o,j<y.i∧L.getD j false=true:=fun j hj=>⟨h.jj y hy o ho j hj,Dd j hj⟩
 have ll:cy g w R a y.ts:=h.look ho hp (fun t ht=>De t (by rw[pQ,zT,Df]at ht;exact ht)) (h.rd y hy)
 have Cn:Region.wanted o (yielded ops a.tmps)=au R y.o.g:=by
  rw[Df];exact gy Fu h.kD (fun t ht=>De t (by simp[tmpsOf,ht])) (ll.sub (by rw[←Df];exact Gt))
 have gn:y.i<L.size:=by rw[h.ni];exact(Array.getElem?_eq_some_iff.1 ho).1
 have Dg:∀e,y.o.d=some e→e<a.tmps.size:=fun e he=>by rw[h.kD];exact zb e (hd▸he)
 have fh:∀v w' g',Le g w g' w'→SR w0 g' H w'→(∀d,y.o.d=some d→VR g' w' (R d) v)→Fr g0 H0 g' H→(∀z∈pre,L.getD z.i false=false→z.i≠y.i→ji g' H0.length R H z) →
   Dr P n ops mu w0 df mk g0 ws H0 pre (L.setIfInBounds y.i true) g' R H (a.put y.o.d v) w':=by
  intro v w' g' le sr hv fr zU
  refine { ni:=(by simp[h.ni]),cmp:=h.cmp,rd:=h.rd,dd:=h.dd,kl:=h.kl,uniq:=h.uniq,jj:=h.jj,closed:=?_,sub:=?_,iC:=?_,sr:=sr,le:=h.le.trans le,fr:=fr,kD:=(by rw[iB];exact h.kD),kE:=?_,bz:=?_,inj:=?_,wq:=(by rw[db];exact h.wq),wu:=h.wu }
  ·intro i oi ya nj j hj
   rw[br gn]at nj ⊢
   by_cases e:y.i=i
   ·subst e;rw[ho]at ya;cases ya
    obtain⟨h1,h2⟩:=hp j hj
    exact⟨h1,by split<;>simp[h2]⟩
   ·rw[if_neg e]at nj
    obtain⟨h1,h2⟩:=h.closed i oi ya nj j hj
    exact⟨h1,by split<;>simp[h2]⟩
  ·intro i nj
   rw[br gn]at nj
   by_cases e:y.i=i
   ·exact⟨y,hy,e⟩
   ·rw[if_neg e]at nj;exact h.sub i nj
  ·intro z hz he
   rw[br gn]
   split
   ·rfl
   ·exact h.iC z hz he
  ·intro t ht zd
   rw[iA _ _ _ _ Dg]
   split
   ·rename_i e;exact hv t e
   ·rename_i e
    refine(h.kE t ht fun z hz hu hC=>?_).mono le
    by_cases ez:y.i=z.i
    ·rw[h.uniq y hy z hz ez]at e;exact e hC
    ·exact zd z hz (by rw[br gn,if_neg ez];exact hu) hC
  ·intro z hz hu
   rw[br gn]at hu
   by_cases ez:y.i=z.i
   ·rw[if_pos ez]at hu;cases hu
   ·rw[if_neg ez]at hu;exact zU z hz hu (Ne.symm ez)
  ·intro z hz z' iX hu qK
   rw[br gn]at hu qK
   by_cases ez:y.i=z.i
   ·rw[if_pos ez]at hu;cases hu
   ·by_cases Fv:y.i=z'.i
    ·rw[if_pos Fv]at qK;cases qK
    ·rw[if_neg ez]at hu;rw[if_neg Fv]at qK;exact h.inj z hz z' iX hu qK
 have qL:∀g',Fr g H g' H→∀z∈pre,L.getD z.i false=false→z.i≠y.i→ji g' H0.length R H z:=fun g' fr z hz hu _ =>
  (h.bz z hz hu).mono (fun _ _=>rfl) (fun _ _=>rfl) (fun _ _=>rfl) (fun _ _ _ _ _ _ e=>e) (fun k x _ hx u4 hn _=>fr.2 k x hx u4 hn)
 rcases h.bz y hy x8 with⟨hw,hu⟩|⟨hw,d,b,yc,ju,dH⟩
 ·refine⟨undef,w,g,fun K Q hk=>?_,fh undef w g (.refl _ _) h.sr (fun d e=>by rw[hu d e];exact da) h.fr (qL g (.refl _ _))⟩
  unfold wpOpIn
  simp only[ho,Cn,hw]
  rw[hd]at hk
  exact⟨fun _ _=>trivial,hk⟩
 ·have yd:ba P (mu y.i) o.op=some (.b b):=by rw[←ju,zT];exact za
  rcases dH with⟨hk,he⟩|⟨k,z,rfl,e1,e2,e3,e4⟩|⟨k,rfl,e1,e2,e3,e4⟩
  ·obtain⟨v,w',g',hs,le,sr,hv,fr⟩:=qI (r:=r) yd h.sr (ll.sub Gu) he
   refine⟨v,w',g',fun K Q jx=>?_,fh v w' g' le sr (fun d' e=>by rw[yc]at e;cases e;exact hv) (h.fr.trans fr) (qL g' fr)⟩
   unfold wpOpIn
   simp only[ho,Cn,hw,if_true]
   exact hs K Q (by rw[←hd];exact jx)
  ·-- a variable Fx dL place
   have ye:y.early=true:=by cases he:y.early with|true=>rfl|false=>rw[h.iC y hy he]at x8;cases x8
   have kT:=h.kl y hy ye o ho (by simp[tD,ju,yc,gx])
   obtain⟨v,w',g',hs,le,sr,hv,hφ⟩:=lP (r:=r) (a:=a) kT yd h.sr e2 e3
   have Dh:dZ R y=some k:=by simp[dZ,yc,ju,e1,fb]
   refine⟨v,w',g',fun K Q jx=>?_,fh v w' g' le sr (fun d' e=>by rw[yc]at e;cases e;rw[e1];exact hv) ⟨h.fr.1,fun b x hx u4 hb=>?_⟩ fun z' iX qK aG=>?_⟩
   ·unfold wpOpIn
    simp only[ho,Cn,hw,if_true]
    exact hs K Q (by rw[←hd];exact jx)
   ·obtain⟨f1,f2⟩:=h.fr.2 b x hx u4 hb
    exact⟨f1,hφ b f2 (by have:=(List.getElem?_eq_some_iff.1 hx).1;omega)⟩
   ·exact(h.bz z' iX qK).mono (fun _ _=>rfl) (fun _ _=>rfl) (fun _ _=>rfl) (fun _ _ _ _ _ _ e=>e) fun k' x xE hx _ hn _ =>
     ⟨hx,hφ k' hn (by rintro rfl;exact h.inj y hy z' iX x8 qK (Ne.symm aG) k' Dh xE)⟩
  ·have ye:y.early=true:=by cases he:y.early with|true=>rfl|false=>rw[h.iC y hy he]at x8;cases x8
   have kT:=h.kl y hy ye o ho (by simp[tD,ju,yc,gx])
   obtain⟨v,w',g',hs,le,sr,hv,hφ⟩:=pn (r:=r) (a:=a) kT yd h.sr e2 e3
   have Dh:dZ R y=some k:=by simp[dZ,yc,ju,e1,fb]
   refine⟨v,w',g',fun K Q jx=>?_,fh v w' g' le sr (fun d' e=>by rw[yc]at e;cases e;rw[e1];exact hv) ⟨h.fr.1,fun b x hx u4 hb=>?_⟩ fun z' iX qK aG=>?_⟩
   ·unfold wpOpIn
    simp only[ho,Cn,hw,if_true]
    exact hs K Q (by rw[←hd];exact jx)
   ·obtain⟨f1,f2⟩:=h.fr.2 b x hx u4 hb
    exact⟨f1,hφ b f2 (by have:=(List.getElem?_eq_some_iff.1 hx).1;omega)⟩
   ·exact(h.bz z' iX qK).mono (fun _ _=>rfl) (fun _ _=>rfl) (fun _ _=>rfl) (fun _ _ _ _ _ _ e=>e) fun k' x xE hx _ hn _ =>
     ⟨hx,hφ k' hn (by rintro rfl;exact h.inj y hy z' iX x8 qK (Ne.symm aG) k' Dh xE)⟩
end
structure Hd (P:Program)(n:Nat)(ops:Array Oper)(mu:Nat→Bool)(pre:List It)(x:It)(o:Oper):Prop where
 ho:ops[x.i]?=some o
 co:bW P n ops (mu x.i) o x.o.gP=some x.o
 ts:x.ts=tmpsOf o x.o.op x.o.g
 st:x.early=false→x.o.gP=dv ((bM ops.toList []).getD x.i 0) pre
 pred:∀j∈aV o,j<x.i∧∃z∈pre,z.i=j
 Gv:∀z∈pre,z.early=true∨((bM ops.toList []).getD x.i 0).testBit z.i=true
 ne:∀z∈pre,z.i≠x.i
 dst:∀d,x.o.d=some d→(∀z∈pre,z.o.d≠some d∧(d∈z.ts→x.early=false∧((bM ops.toList []).getD x.i 0).testBit z.i=true))∧d∉x.ts
 Di:∀z∈pre,∀d,z.o.d=some d→d∈x.ts→((bM ops.toList []).getD x.i 0).testBit z.i=true
 kl:x.early=true→tD x.o≠.wo∧(tD x.o=.make→m9 o.op=true)
theorem po {P:Program}{n:Nat}{ops:Array Oper}{mu:Nat→Bool}{pre:List It}{y:Nat×Bool}{x:It}(h:na P n ops mu ((bM ops.toList []).getD y.1 0) pre y=some x):∃o,Hd P n ops mu pre x o:=by
 unfold na at h
 generalize nK:(bM ops.toList []).getD y.1 0=bs at h
 cases ho:ops[y.1]? with
 | none=>simp[ho]at h
 | some o =>
  rw[ho]at h;dsimp only at h
  cases hc:bW P n ops (mu y.1) o (if y.2=true then []else dv bs pre)with
  | none=>rw[hc]at h;cases h
  | some o' =>
   rw[hc]at h;dsimp only at h
   split at h
   ·rename_i hk
    cases h
    subst nK
    have g8:o'.gP=if y.2=true then []else dv ((bM ops.toList []).getD y.1 0) pre:=by
     obtain⟨op,gd,_,_,e,_⟩:=aq hc;rw[e]
    simp only[qG,Bool.and_eq_true,List.all_eq_true,decide_eq_true_eq,List.any_eq_true,beq_iff_eq,Bool.or_eq_true,bne_iff_ne,ne_eq,Bool.not_eq_true']at hk
    obtain⟨⟨⟨⟨⟨k1,k2⟩,k3⟩,k4⟩,k5⟩,k6⟩:=hk
    refine⟨o,ho,by rw[g8];exact hc,rfl,fun he=>by simp only at he;rw[g8,he];rfl,k1,k2,k3,fun d hd=>?_,fun z hz d hd ht=>?_,fun he=>?_⟩
    ·simp only at hd
     rw[hd]at k4
     simp only[List.all_eq_true,Bool.and_eq_true,bne_iff_ne,ne_eq,Bool.or_eq_true,Bool.not_eq_true',List.contains_eq_mem,decide_eq_false_iff_not,decide_eq_true_eq]at k4
     exact⟨fun z hz=>⟨(k4.1 z hz).1,fun ht=>((k4.1 z hz).2.resolve_left (fun hn=>hn ht))⟩,k4.2⟩
    ·have:=k5 z hz
     rw[hd]at this
     simp only[Bool.or_eq_true,Bool.not_eq_true',List.contains_eq_mem,decide_eq_false_iff_not]at this
     exact this.resolve_left (fun hn=>hn ht)
    ·rcases k6 with k6|k6
     ·have we:y.2=true:=he
      rw[we]at k6;cases k6
     ·exact⟨k6.1,fun hm=>k6.2.resolve_left (fun hn=>hn hm)⟩
   ·cases h
theorem ea {P:Program}{n:Nat}{ops:Array Oper}{mu:Nat→Bool}{pre:List It}{y:Nat×Bool}{ord:List (Nat×Bool)}{dL:List It}(h:bA P n ops mu (bM ops.toList []) pre (y :: ord)=some dL) :
  ∃x l o,dL=x :: l∧Hd P n ops mu pre x o∧bA P n ops mu (bM ops.toList []) (pre++[x]) ord=some l:=by
 simp only[bA]at h
 split at h
 ·rename_i x hx
  simp only[Option.map_eq_some_iff]at h
  obtain⟨l,h1,rfl⟩:=h
  obtain⟨o,ho⟩:=po hx
  exact⟨x,l,o,rfl,ho,h1⟩
 ·cases h
theorem aX {P:Program}{n:Nat}{ops:Array Oper}{mu:Nat→Bool}:∀(ord:List (Nat×Bool)) (pre dL:List It),bA P n ops mu (bM ops.toList []) pre ord=some dL→∀i,i<ops.size→∃y∈pre++dL,y.i=i
 | [],pre,dL,h,i,hi=>by
  simp only[bA]at h
  split at h
  ·rename_i hk
   cases h
   simp only[List.all_eq_true,List.mem_range,List.any_eq_true,beq_iff_eq]at hk
   simpa using hk i hi
  ·cases h
 | y :: ord,pre,dL,h,i,hi=>by
  obtain⟨x,l,o,rfl,_,h2⟩:=ea h
  simpa using aX ord (pre++[x]) l h2 i hi
theorem bc {P:Program}{n:Nat}{ops:Array Oper}{mu:Nat→Bool}:∀(ord:List (Nat×Bool)) (pre dL:List It),bA P n ops mu (bM ops.toList []) pre ord=some dL→∀y∈dL,(∃o,ops[y.i]?=some o∧(∀j∈aV o,j<y.i))∧∀z∈pre,z.early=true∨((bM ops.toList []).getD y.i 0).testBit z.i=true
 | [],pre,dL,h,y,hy=>by
  simp only[bA]at h
  split at h
  ·cases h;cases hy
  ·cases h
 | u :: ord,pre,dL,h,y,hy=>by
  obtain⟨x,l,o,rfl,h1,h2⟩:=ea h
  rcases List.mem_cons.1 hy with rfl|hy
  ·exact⟨⟨o,h1.ho,fun j hj=>(h1.pred j hj).1⟩,h1.Gv⟩
  ·obtain⟨h3,h4⟩:=bc ord (pre++[x]) l h2 y hy
   exact⟨h3,fun z hz=>h4 z (by simp[hz])⟩
theorem iD {b:Nat}{y:It}{d:Nat}{op:Bo}:∀(pre:List It),y∈pre→y.early=true→y.o.d=some d→y.o.op=.b op→gx op=.read→b.testBit y.i=false→⟨d,op,y.o.g⟩∈dv b pre
 | [],h,_,_,_,_,_=>by cases h
 | z :: pre,h,h1,h2,h3,h4,h5=>by
  rcases List.mem_cons.1 h with rfl|h
  ·simp[dv,h1,h2,h3,h4,h5]
  ·have ih:=iD pre h h1 h2 h3 h4 h5
   simp only[dv]
   split
   ·split
    ·exact List.mem_cons_of_mem _ ih
    ·exact ih
   ·exact ih
theorem dc {R R':ai}{y:It}(h:∀d,y.o.d=some d→R' d=R d):dZ R' y=dZ R y:=by
 unfold dZ
 split
 ·rename_i d z h1 h2;simp only[h1,h2,h d h1]
 ·rename_i d h1 h2;simp only[h1,h2,h d h1]
 ·rfl
theorem ji.lt {g:Ctx}{N:Nat}{R:ai}{H:aa}{y:It}(h:ji g N R H y){k:Nat}(hm:dZ R y=some k):k<H.length:=by
 unfold dZ at hm
 rcases h with⟨_,h2⟩|⟨_,d,b,h2,h3,h4⟩
 ·split at hm
  ·rename_i d z h1 _;rw[h2 d h1]at hm;cases hm
  ·rename_i d h1 _;rw[h2 d h1]at hm;cases hm
  ·cases hm
 ·rw[h2,h3]at hm
  rcases h4 with⟨hk,he⟩|⟨k',z,rfl,e1,e2,e3,e4⟩|⟨k',rfl,e1,e2,e3,e4⟩
  ·cases b<;>simp[gx]at hk hm
  ·simp only[e1,fb,Option.some.injEq]at hm;subst hm;exact(List.getElem?_eq_some_iff.1 e2).1
  ·simp only[e1,fb,Option.some.injEq]at hm;subst hm;exact(List.getElem?_eq_some_iff.1 e2).1
section
variable {P:Program} {n:Nat} {ops:Array Oper} {mu:Nat→Bool} {w0 w w' ws:World} {df:List Deferred} {mk:T} {g g' g0:Ctx} {H H0 H':aa} {pre:List It} {L:Array Bool} {R:ai} {a:Act} {r:Option Nat} {x:It} {o:Oper}
theorem Dr.fv (h:Dr P n ops mu w0 df mk g0 ws H0 pre L g R H a w)(hd:Hd P n ops mu pre x o):L.getD x.i false=false:=by
 cases e:L.getD x.i false with
 | false=>rfl
 | true=>obtain⟨y,hy,e⟩:=h.sub x.i e;exact absurd e (hd.ne y hy)
theorem ak {α:Type}{y x:α}{l:List α}(h:y∈l++[x]):y∈l∨y=x:=by simpa using h
theorem Dr.take (h:Dr P n ops mu w0 df mk g0 ws H0 pre L g R H a w)(hd:Hd P n ops mu pre x o)(he:x.early=true){t:T}(hp:ji g H0.length (ay R x.o.d t) H' x)
  (hH:H'=H∨∃B,H'=H++[B]∧((∃cs,B=.cells cs)∨∃es,B=.map es)) (hm:∀k,dZ (ay R x.o.d t) x=some k→H.length≤k):Dr P n ops mu w0 df mk g0 ws H0 (pre++[x]) L g (ay R x.o.d t) H' a w:=by
 have Gw:=h.fv hd
 have jB:∀t:T,x.o.d≠some n:=fun _ e=>by
  obtain⟨op,gd,_,_,x9,_,zb⟩:=aq hd.co
  have Co:x.o.d=o.dst:=by rw[x9]
  exact Nat.lt_irrefl n (zb n (Co▸e))
 have pQ:∀z∈pre,∀u∈z.ts,ay R x.o.d t u=R u:=fun z hz u hu=>aP fun e=>by
  obtain⟨h1,_⟩:=((hd.dst u e).1 z hz).2 hu
  rw[he]at h1;cases h1
 have pR:∀z∈pre,∀d,z.o.d=some d→ay R x.o.d t d=R d:=fun z hz d hC=>aP fun e=>((hd.dst d e).1 z hz).1 hC
 have Dj:∃l,H'=H++l:=by
  rcases hH with rfl|⟨B,rfl,_⟩
  ·exact⟨[],by simp⟩
  ·exact⟨[B],rfl⟩
 obtain⟨l,hl⟩:=Dj
 have Cp:∀z∈pre,L.getD z.i false=false→ji g H0.length (ay R x.o.d t) H' z:=fun z hz hu=>by
  obtain⟨oz,_,_,Dk⟩:=h.cmp z hz
  obtain⟨t1,t2,_⟩:=cP Dk
  refine(h.bz z hz hu).mono (fun u hu=>pQ z hz u (t1 u hu)) (fun u hu=>pQ z hz u (t2 u hu)) (pR z hz) (fun d b _ _ _ hk e=>?_) (fun k y _ hy _ hn _=>?_)
  ·subst hl;exact(eR hk e).2 l
  ·subst hl;exact⟨cO hy,hn⟩
 refine { ni:=h.ni,cmp:=?_,rd:=?_,dd:=?_,kl:=?_,uniq:=?_,jj:=?_,closed:=h.closed,sub:=fun i hi=>?_,iC:=?_,sr:=?_,le:=h.le,fr:=?_,kD:=h.kD,kE:=?_,bz:=?_,inj:=?_,wq:=h.wq,wu:=(by rw[aP (jB t)];exact h.wu) }
 ·intro y hy
  replace hy:=ak hy;rcases hy with hy|rfl
  ·exact h.cmp y hy
  ·exact⟨o,hd.ho,⟨_,hd.co⟩,hd.ts⟩
 ·intro y hy z hz zV d hC yf
  replace hy:=ak hy;rcases hy with hy|rfl
  ·replace hz:=ak hz;rcases hz with hz|rfl
   ·exact h.rd y hy z hz zV d hC yf
   ·obtain⟨h1,_⟩:=((hd.dst d hC).1 y hy).2 yf
    rw[he]at h1;cases h1
  ·replace hz:=ak hz;rcases hz with hz|rfl
   ·exact hd.Di z hz d hC yf
   ·exact absurd yf (hd.dst d hC).2
 ·intro y hy z hz d u5 hC
  replace hy:=ak hy;rcases hy with hy|rfl
  ·replace hz:=ak hz;rcases hz with hz|rfl
   ·exact h.dd y hy z hz d u5 hC
   ·exact absurd u5 ((hd.dst d hC).1 y hy).1
  ·replace hz:=ak hz;rcases hz with hz|rfl
   ·exact absurd hC ((hd.dst d u5).1 z hz).1
   ·rfl
 ·intro y hy nX o' fp
  replace hy:=ak hy;rcases hy with hy|rfl
  ·exact h.kl y hy nX o' fp
  ·rw[hd.ho]at fp;cases fp;exact(hd.kl nX).2
 ·intro y hy z hz e
  replace hy:=ak hy;rcases hy with hy|rfl
  ·replace hz:=ak hz;rcases hz with hz|rfl
   ·exact h.uniq y hy z hz e
   ·exact absurd e (hd.ne y hy)
  ·replace hz:=ak hz;rcases hz with hz|rfl
   ·exact absurd e.symm (hd.ne z hz)
   ·rfl
 ·intro y hy o' fp j hj
  replace hy:=ak hy;rcases hy with hy|rfl
  ·exact h.jj y hy o' fp j hj
  ·rw[hd.ho]at fp;cases fp;exact(hd.pred j hj).1
 ·obtain⟨y,hy,e⟩:=h.sub i hi
  exact⟨y,by simp[hy],e⟩
 ·intro y hy nX
  replace hy:=ak hy;rcases hy with hy|rfl
  ·exact h.iC y hy nX
  ·rw[he]at nX;cases nX
 ·rcases hH with rfl|⟨B,rfl,hB⟩
  ·exact h.sr
  ·exact h.sr.Dc hB
 ·subst hl;exact h.fr.trans (Fr.ext g H l)
 ·intro u hu zd
  rw[aP (zd x (by simp) Gw)]
  exact h.kE u hu fun y hy jk=>zd y (by simp[hy]) jk
 ·intro y hy jk
  replace hy:=ak hy;rcases hy with hy|rfl
  ·exact Cp y hy jk
  ·exact hp
 ·intro y hy z hz jk lB aG k hk nI
  replace hy:=ak hy;rcases hy with hy|rfl
  ·rw[dc (pR y hy)]at hk
   replace hz:=ak hz;rcases hz with hz|rfl
   ·rw[dc (pR z hz)]at nI
    exact h.inj y hy z hz jk lB aG k hk nI
   ·have h1:=(h.bz y hy jk).lt hk
    have h2:=hm k nI
    omega
  ·replace hz:=ak hz;rcases hz with hz|rfl
   ·rw[dc (pR z hz)]at nI
    have h1:=(h.bz z hz lB).lt nI
    have h2:=hm k hk
    omega
   ·exact aG rfl
theorem Dr.both (h:Dr P n ops mu w0 df mk g0 ws H0 pre L g R H a w)(hd:Hd P n ops mu pre x o)(he:x.early=false)(hp:∀j∈aV o,L.getD j false=true){t:T}{v:Value}(le:Le g w g' w')(sr:SR w0 g' H' w')(hv:VR g' w' t v)(fr:Fr g H g' H')
  (hs:∀y∈pre,L.getD y.i false=false→∀d b,au R y.o.g=true→y.o.d=some d→y.o.op=.b b→gx b=.read→ae R H b=some (R d,H)→ae R H' b=some (R d,H')) :
  Dr P n ops mu w0 df mk g0 ws H0 (pre++[x]) (L.setIfInBounds x.i true) g' (ay R x.o.d t) H' (a.put x.o.d v) w':=by
 have gn:x.i<L.size:=by rw[h.ni];exact(Array.getElem?_eq_some_iff.1 hd.ho).1
 have Cf:∀j∈aV o,j<x.i∧L.getD j false=true:=fun j hj=>⟨(hd.pred j hj).1,hp j hj⟩
 obtain⟨op,gd,za,Fu,x9,De,zb⟩:=aq hd.co
 have Co:x.o.d=o.dst:=by rw[x9]
 have Dg:∀e,x.o.d=some e→e<a.tmps.size:=fun e h1=>by rw[h.kD];exact zb e (Co▸h1)
 have pQ:∀z∈pre,L.getD z.i false=false→∀u∈z.ts,ay R x.o.d t u=R u:=fun z hz hu u Gx=>aP fun e=>by
  obtain⟨_,h2⟩:=((hd.dst u e).1 z hz).2 Gx
  rw[h.bit hd.ho Cf h2]at hu;cases hu
 have pR:∀z∈pre,∀d,z.o.d=some d→ay R x.o.d t d=R d:=fun z hz d hC=>aP fun e=>((hd.dst d e).1 z hz).1 hC
 refine { ni:=(by simp[h.ni]),cmp:=?_,rd:=?_,dd:=?_,kl:=?_,uniq:=?_,jj:=?_,closed:=?_,sub:=?_,iC:=?_,sr:=sr,le:=h.le.trans le,fr:=h.fr.trans fr,kD:=(by rw[iB];exact h.kD),kE:=?_,bz:=?_,inj:=?_,wq:=(by rw[db];exact h.wq),wu:=(by rw[aP (fun e=>Nat.lt_irrefl n (zb n (Co▸e)))];exact h.wu) }
 ·intro y hy
  replace hy:=ak hy;rcases hy with hy|rfl
  ·exact h.cmp y hy
  ·exact⟨o,hd.ho,⟨_,hd.co⟩,hd.ts⟩
 ·intro y hy z hz zV d hC yf
  replace hz:=ak hz;rcases hz with hz|rfl
  ·replace hy:=ak hy;rcases hy with hy|rfl
   ·exact h.rd y hy z hz zV d hC yf
   ·exact hd.Di z hz d hC yf
  ·rw[he]at zV;cases zV
 ·intro y hy z hz d u5 hC
  replace hy:=ak hy;rcases hy with hy|rfl
  ·replace hz:=ak hz;rcases hz with hz|rfl
   ·exact h.dd y hy z hz d u5 hC
   ·exact absurd u5 ((hd.dst d hC).1 y hy).1
  ·replace hz:=ak hz;rcases hz with hz|rfl
   ·exact absurd hC ((hd.dst d u5).1 z hz).1
   ·rfl
 ·intro y hy nX o' fp
  replace hy:=ak hy;rcases hy with hy|rfl
  ·exact h.kl y hy nX o' fp
  ·rw[he]at nX;cases nX
 ·intro y hy z hz e
  replace hy:=ak hy;rcases hy with hy|rfl
  ·replace hz:=ak hz;rcases hz with hz|rfl
   ·exact h.uniq y hy z hz e
   ·exact absurd e (hd.ne y hy)
  ·replace hz:=ak hz;rcases hz with hz|rfl
   ·exact absurd e.symm (hd.ne z hz)
   ·rfl
 ·intro y hy o' fp j hj
  replace hy:=ak hy;rcases hy with hy|rfl
  ·exact h.jj y hy o' fp j hj
  ·rw[hd.ho]at fp;cases fp;exact(hd.pred j hj).1
 ·intro i oi ya nj j hj
  rw[br gn]at nj ⊢
  by_cases e:x.i=i
  ·subst e
   rw[hd.ho]at ya;cases ya
   obtain⟨h1,h2⟩:=Cf j hj
   exact⟨h1,by split<;>simp[h2]⟩
  ·rw[if_neg e]at nj
   obtain⟨h1,h2⟩:=h.closed i oi ya nj j hj
   exact⟨h1,by split<;>simp[h2]⟩
 ·intro i nj
  rw[br gn]at nj
  by_cases e:x.i=i
  ·exact⟨x,by simp,e⟩
  ·rw[if_neg e]at nj
   obtain⟨y,hy,e⟩:=h.sub i nj
   exact⟨y,by simp[hy],e⟩
 ·intro y hy nX
  rw[br gn]
  split
  ·rfl
  ·rename_i aG
   replace hy:=ak hy;rcases hy with hy|rfl
   ·exact h.iC y hy nX
   ·exact absurd rfl aG
 ·intro u hu zd
  rw[iA _ _ _ _ Dg]
  split
  ·rename_i e;rw[e,dr];exact hv
  ·rename_i e
   rw[aP e]
   exact(h.kE u hu fun y hy jk=>zd y (by simp[hy]) (by rw[br gn,if_neg (Ne.symm (hd.ne y hy))];exact jk)).mono le
 ·intro y hy jk
  rw[br gn]at jk
  split at jk
  ·cases jk
  ·rename_i aG
   replace hy:=ak hy;rcases hy with hy|rfl
   ·obtain⟨oz,_,_,Dk⟩:=h.cmp y hy
    obtain⟨t1,t2,_⟩:=cP Dk
    exact(h.bz y hy jk).mono (fun u hu=>pQ y hy jk u (t1 u hu)) (fun u hu=>pQ y hy jk u (t2 u hu)) (pR y hy) (hs y hy jk) (fun k z _ hz u4 hn _=>fr.2 k z hz u4 hn)
   ·exact absurd rfl aG
 ·intro y hy z hz jk lB aG k hk nI
  rw[br gn]at jk lB
  split at jk
  ·cases jk
  ·split at lB
   ·cases lB
   ·rename_i Gy C5
    replace hy:=ak hy;rcases hy with hy|rfl
    ·replace hz:=ak hz;rcases hz with hz|rfl
     ·rw[dc (pR y hy)]at hk
      rw[dc (pR z hz)]at nI
      exact h.inj y hy z hz jk lB aG k hk nI
     ·exact absurd rfl C5
    ·exact absurd rfl Gy
theorem Dr.init (sr:SR w0 g H w)(hn:a.tmps.size=n)(kT:R n=mk)(hr:∀t,t<n→VR g w (R t) (a.tmps.getD t undef))(le:Le g0 ws g w)(fr:Fr g0 H0 g H):Dr P n ops mu w0 a.defers mk g0 ws H0 [] (Array.replicate ops.size false) g R H a w:=by
 have hf:∀i,(Array.replicate ops.size false).getD i false=false:=fun i=>by
  rw[Array.getD_eq_getD_getElem?,Array.getElem?_replicate];split<;>rfl
 refine { ni:=by simp,cmp:=(by simp),rd:=(by simp),dd:=(by simp),kl:=(by simp),uniq:=(by simp),jj:=(by simp),closed:=fun i o _ h=>?_,sub:=fun i h=>?_,iC:=(by simp),sr:=sr,le:=le,fr:=fr,kD:=hn,kE:=fun t ht _=>hr t ht,bz:=(by simp),inj:=(by simp),wq:=rfl,wu:=kT }
 ·rw[hf]at h;cases h
 ·rw[hf]at h;cases h
end
section
variable {P:Program} {w0 w:World} {g:Ctx} {H H':aa} {R:ai} {a:Act} {n:Nat} {ops:Array Oper}
def dI:Bo→Bool
 | .eM _ _ _ _=>true
 | _=>false
theorem cH {b:Bo}(h:dI b=false){neg:Bool}{c:tH}{x y:X}:b≠.eM neg c x y:=by rintro rfl;cases h
theorem qM {ty:TypeId}{x:X}{b:Bo}(h:jC P ty x=some b):dI b=false:=by
 unfold jC at h;(repeat' split at h)<;>cases h<;>rfl
theorem jJ {ty:TypeId}{x:X}{f:Nat}{ad:Bool}{b:Bo}(h:ft P ty x f ad=some b):dI b=false:=by
 unfold ft at h;(repeat' split at h)<;>cases h<;>rfl
theorem nY {ty:TypeId}{x i:X}{ad:Bool}{b:Bo}(h:m6 P ty x i ad=some b):dI b=false:=by
 unfold m6 at h;(repeat' split at h)<;>first|(cases h<;>rfl)|(simp only[Option.map_eq_some_iff]at h;obtain⟨_,_,h⟩:=h;cases h;rfl)
theorem pq {ty:TypeId}{x:X}{lo hi mx:Option X}{b:Bo}(h:gp P ty x lo hi mx=some b):dI b=false:=by
 unfold gp at h;(repeat' split at h)<;>cases h<;>rfl
theorem u6 {ty:TypeId}{x:X}{lo hi mx:Option X}{b:Bo}(h:o9 P ty x lo hi mx=some b):dI b=false:=by
 unfold o9 at h
 split at h
 ·simp only[Option.map_eq_some_iff]at h;obtain⟨_,_,h⟩:=h;cases h;rfl
 ·cases h
theorem qN {src dst:TypeId}{x:X}{b:Bo}(h:jD P src dst x=some b):dI b=false:=by
 unfold jD at h;(repeat' split at h)<;>cases h<;>rfl
theorem nk {mu:Bool}{dq:List TypeId}{as:List X}{b:Bo}(h:eO P mu dq as=some b):dI b=false:=by
 unfold eO at h;(repeat' split at h)<;>cases h<;>rfl
theorem u7 {dq:List TypeId}{as:List X}{b:Bo}(h:lD P dq as=some b):dI b=false:=by
 unfold lD at h;(repeat' split at h)<;>cases h<;>rfl
theorem lQ {mu:Bool}{bt:Builtin}{dq:List TypeId}{as:List X}{b:Bo}(h:dF P mu bt dq as=some b):dI b=false:=by
 unfold dF at h
 split at h
 ·split at h
  ·rename_i b' hz;cases h;exact u7 hz
  ·exact nk h
 all_goals (repeat' split at h)<;>first|(cases h<;>rfl)|(simp only[Option.map_eq_some_iff]at h;obtain⟨_,_,h⟩:=h;cases h;rfl)
theorem pr {ty:TypeId}{ps:List (Nat×X)}{b:Bo}(h:gq P ty ps=some b):dI b=false:=by
 unfold gq at h;(repeat' split at h)<;>cases h<;>rfl
theorem u9 {mu:Bool}{ty:TypeId}{n:Nat}{ps:List (Nat×X)}{b:Bo}(h:pa P mu ty n ps=some b):dI b=false:=by
 cases mu<;>unfold pa at h<;>(repeat' split at h)<;>cases h<;>rfl
theorem vd {mu:Bool}{ty:TypeId}{l c:X}{b:Bo}(h:pb P mu ty l c=some b):dI b=false:=by
 unfold pb at h;(repeat' split at h)<;>cases h<;>rfl
theorem nq {mu:Bool}{op:Op}{neg:Bool}{x y:X}(h:aA P mu op=some (.eM neg .slice x y)) :
  ∃ze ty ox oy yt e,op=.binOp ze ty ox oy yt∧aj ox=some x∧aj oy=some y∧P.underlying ty=some (.slice e)∧ze=(if neg then .neq else .eql):=by
 cases op<;>simp only[aA,Option.map_eq_some_iff,Option.bind_eq_some_iff]at h
 case binOp ze ty ox oy yt =>
  cases h1:aj ox with
  | none=>simp[h1]at h
  | some x'=>cases h2:aj oy with
   | none=>simp[h1,h2]at h
   | some y' =>
    simp only[h1,h2]at h
    unfold qy at h
    split at h
    ·cases h
    ·cases h
    ·simp only[Option.map_eq_some_iff]at h;obtain⟨_,_,h⟩:=h;cases h
    ·split at h
     ·split at h<;>cases h
     ·cases h
    ·rename_i d _ _ _ _ hu
     split at h
     ·rename_i n' c hn g6
      cases h
      refine⟨ze,ty,ox,oy,yt,?_⟩
      cases d<;>simp[cls]at g6
      exact⟨_,rfl,h1,h2,hu,by cases ze<;>simp[isEq]at hn<;>subst hn<;>rfl⟩
     ·cases h
    ·cases h
 case load=>obtain⟨_,_,h⟩:=h;exact absurd rfl (cH (qM h))
 case fieldAddr=>obtain⟨_,_,h⟩:=h;exact absurd rfl (cH (jJ h))
 case field=>obtain⟨_,_,h⟩:=h;exact absurd rfl (cH (jJ h))
 case indexAddr=>split at h;exact absurd rfl (cH (nY h));cases h
 case index=>split at h;exact absurd rfl (cH (nY h));cases h
 case slice =>
  split at h
  ·split at h
   ·exact absurd rfl (cH (u6 h))
   ·exact absurd rfl (cH (pq h))
  ·cases h
 case convert=>obtain⟨_,_,h⟩:=h;exact absurd rfl (cH (qN h))
 case build=>obtain⟨_,_,h⟩:=h;exact absurd rfl (cH (pr h))
 case buildSlice=>obtain⟨_,_,h⟩:=h;exact absurd rfl (cH (u9 h))
 case makeSlice=>split at h;exact absurd rfl (cH (vd h));cases h
 case call c =>
  obtain⟨callee,args,dq⟩:=c
  cases callee
  case builtin=>simp only[aA,Option.bind_eq_some_iff]at h;obtain⟨_,_,h⟩:=h;exact absurd rfl (cH (lQ h))
  case value cv =>
   cases cv<;>simp only[aA]at h<;>(try (cases h;done))
   split at h<;>cases h
  all_goals simp[aA]at h
 case makeMap t r=>cases r<;>simp[aA]at h
 case next it str=>cases str<;>simp[aA]at h
 case range ty m=>split at h;(simp only[Option.map_eq_some_iff]at h;obtain⟨_,_,h⟩:=h;cases h);cases h
 case makeFunc f first er =>
  cases f<;>simp only[aA]at h
  case func f =>
   split at h
   ·simp only[Option.map_eq_some_iff]at h;obtain⟨_,_,h⟩:=h;cases h
   ·cases h
  all_goals cases h
 all_goals first
  | (cases h;done)
  | (obtain⟨_,_,h⟩:=h;cases h;done)
  | ((repeat' split at h)<;>first|(cases h;done)|(simp only[Option.map_eq_some_iff]at h;obtain⟨_,_,h⟩:=h;cases h;done))
  | (simp only[Option.map_eq_some_iff]at h;obtain⟨_,_,h⟩:=h;cases h)
  | skip
theorem pt {ty e:TypeId}{ox oy:Operand}{ad:Option Addr}{l p:Nat}{neg:Bool}(hu:P.underlying ty=some (.slice e)) :
  (do eqGuard (if neg then .neq else .eql) ty ox oy (.slice ad l p) (.slice none 0 0);binOp (if neg then .neq else .eql) ty (.slice ad l p) (.slice none 0 0)).run P w=.ok (.bool (if neg then !ad.isNone else ad.isNone)) w:=by
 have k1:∀op,(eqGuard op ty ox oy (.slice ad l p) (.slice none 0 0)).run P w=.ok () w:=fun op=>lp
 have k2:(Op.equal ty (.slice ad l p) (.slice none 0 0)).run P w=.ok ad.isNone w:=ct fun n=>by
  rw[Op.equalIn];simp only[Sem.run_bind,run_underlying hu,Result.andThen_ok]
  cases ad<;>simp_all
 have k3:∀neg:Bool,(binOp (if neg then .neq else .eql) ty (.slice ad l p) (.slice none 0 0)).run P w=((Op.equal ty (.slice ad l p) (.slice none 0 0)).run P w).andThen fun b w'=>.ok (.bool (if neg then !b else b)) w':=fun neg=>by cases neg<;>simp[binOp]
 simp only[Sem.run_bind,k1,Result.andThen_ok,k3,k2]
theorem pw {r:Option Nat}{mu:Bool}{o:Oper}{neg:Bool}{x y:X}(hc:ba P mu o.op=some (.b (.eM neg .slice x y)))(hr:cy g w R a (bP o.op.operands.toList))
  (hx:x.ev R=.sl .arg []) (hy:y.ev R=.sl .nil []):∃b:Bool,∀(K:Act→World→Prop) (Q:Exit→Act→World→Prop),K (a.put o.dst (.bool b)) w→o.wpIn (Fw r) 0 P a w K Q:=by
 have jB:=cS hc
 obtain⟨ze,ty,ox,oy,yt,e,ho,h1,h2,hu,rfl⟩:=nq (dG hc)
 have Fy:=jI hr
 have v1:=Fy ox (by rw[ho];simp[Op.operands]) x h1
 have v2:=Fy oy (by rw[ho];simp[Op.operands]) y h2
 rw[hx]at v1
 rw[hy]at v2
 generalize h3:a.eval ox=vx at v1
 generalize h4:a.eval oy=vy at v2
 have e2:vy=.slice none 0 0:=by
  cases v2 with
  | slnil=>rfl
  | sl a7 hk=>exact hk.elim
 subst e2
 obtain⟨ad,l,p,rfl⟩:∃ad l p,vx=.slice ad l p:=by cases v1<;>exact⟨_,_,_,rfl⟩
 refine⟨if neg then !ad.isNone else ad.isNone,fun K Q hk=>⟨fun _ _=>trivial,?_⟩⟩
 rw[Oper.semAt_eq _ _ _ jB]
 have aL:(execOp a.eval o).run P w=.ok (.value (.bool (if neg then !ad.isNone else ad.isNone))) w:=by
  have:=pt (P:=P) (w:=w) (ox:=ox) (oy:=oy) (ad:=ad) (l:=l) (p:=p) (neg:=neg) hu
  simp only[execOp,ho,h3,h4]
  rw[Sem.run_bind,this]
  rfl
 rw[aL]
 exact hk
end
def dg (g:Ctx)(w:World)(n:Nat)(R:ai)(a:Act):Prop:=a.tmps.size=n∧∀t,t<n→VR g w (R t) (a.tmps.getD t undef)
def jl:Exit→Option Ex
 | .normal=>some .normal
 | .exit id=>some (.exit id)
 | .ret=>some .ret
 | _=>none
def nr (w0:World)(n:Nat)(df:List Deferred)(mk:T)(g:Ctx)(w:World)(H:aa)(Q:Out→aa→Prop):Exit→Act→World→Prop:=fun e a' w' =>
 ∃ex R' g' H',jl e=some ex∧Q (.ex ex R') H'∧Le g w g' w'∧SR w0 g' H' w'∧dg g' w' n R' a'∧Fr g H g' H'∧a'.defers=df∧R' n=mk
def jK (w0:World)(g:Ctx)(w:World)(H:aa)(Q:T→aa→Prop):Ending→World→Prop:=fun e w' =>
 ∃v t g' H',e=.returned v∧Q t H'∧Le g w g' w'∧SR w0 g' H' w'∧VR g' w' t v∧Fr g H g' H'
structure lR (P:Program)(E:Env):Prop where
 mixed:P.follows .mixedOrders=true
 fn:∀f fn,E.fn f=some fn→∃an,af P an f=some fn
 hJ:∀f as H Q,E.hJ f as H Q→∀w0 g w args,SR w0 g H w→ax g w as args→bq P f=true∧CallsIn (Fw none) 0 P f args.toArray w (jK w0 g w H Q)
inductive lS (g:Ctx):List T→List Deferred→Prop
 | nil:lS g [] []
 | cons {b r o q ts df} (h:g.φ b=some (r,o,q)) (hs:lS g ts df):lS g (.ptr b 0 :: ts) ({ target:=.collected r,args:=#[] } :: df)
theorem lS.mono {g g':Ctx}{w w':World}(le:Le g w g' w'){ts:List T}{df:List Deferred}(h:lS g ts df):lS g' ts df:=by
 induction h with
 | nil=>exact .nil
 | cons h _ ih=>exact .cons (le.φ _ _ h) ih
def Mk (g:Ctx)(t:T)(df:List Deferred):Prop:=∃ts,t=.bg ts∧lS g ts df
theorem Mk.mono {g g':Ctx}{w w':World}(le:Le g w g' w'){t:T}{df:List Deferred}(h:Mk g t df):Mk g' t df:=let ⟨ts,e,h⟩:=h;⟨ts,e,h.mono le⟩
def eF (w0:World)(n:Nat)(hr:Bool)(df:List Deferred)(mk:T)(g:Ctx)(w:World)(H:aa)(Q:Out→aa→Prop):Exit→Act→World→Prop:=fun e a' w' =>
 ∃ex R' g' H',jl e=some ex∧Q (.ex ex R') H'∧Le g w g' w'∧SR w0 g' H' w'∧dg g' w' n R' a'∧Fr g H g' H'∧(Mk g mk df→Mk g' (R' n) a'.defers)∧(hr=false→R' n=mk∧a'.defers=df)
def b6 (P:Program)(g:Ctx):Prop:=∀n c k,g.ck n c k↔∃an,aw P n an false k=some c
theorem b6.mono {P:Program}{g g':Ctx}{w w':World}(le:Le g w g' w')(h:b6 P g):b6 P g':=fun n c k=>by rw[le.ck];exact h n c k
def iE (F:Fence)(n:Nat)(P:Program)(c:Code)(Q:Exit→Act→World→Prop)(a:Act)(w:World):Prop :=
 ∀(b:Frame) (k:List Item) (cs:List Frame),b.roundOf=F.round→F.fn b.fn→F.room (cs.length+1+n) →
  ∃e a' w',Q e a' w'∧ArrivesIn (Machine.fenced P F) P (lone (b.atR a (.code c :: .inLoop c :: k)) cs w) b k cs e a' w'
theorem lT {F:Fence}{n:Nat}{P:Program}{c:Code}{Q:Exit→Act→World→Prop}{a:Act}{w:World}(h:c.wpIn F n P (Exit.then (iE F n P c Q) Q) a w):iE F n P c Q a w:=by
 intro b k cs Cq hb hr
 obtain⟨e,a₁,w₁,hq,fP⟩:=h b (.inLoop c :: k) cs Cq hb hr
 cases e with
 | normal =>
  obtain⟨e₂,a₂,w₂,Gz,zW⟩:=hq b k cs Cq hb hr
  exact⟨e₂,a₂,w₂,Gz,.of_steps (StepsIn.trans fP (.one (fenced_calm hb hr rfl) stepR_inLoop)) zW⟩
 | exit id=>exact⟨_,a₁,w₁,hq,.pass (x:=.inLoop c) rfl (fun _ _=>.inl (by simp)) fP⟩
 | goto l=>exact⟨_,a₁,w₁,hq,.pass (x:=.inLoop c) rfl (fun _ _=>.inl (by simp)) fP⟩
 | ret=>exact⟨_,a₁,w₁,hq,.pass (x:=.inLoop c) rfl (fun _ _=>.inl (by simp)) fP⟩
 | panic ch=>exact⟨_,a₁,w₁,hq,.pass (x:=.inLoop c) rfl (fun _ _=>.inl (by simp)) fP⟩
 | outgrown=>exact⟨_,a₁,w₁,hq,.pass (x:=.inLoop c) rfl (fun _ _=>.inl (by simp)) fP⟩
theorem px {F:Fence}{n:Nat}{P:Program}{c:Code}{Q:Exit→Act→World→Prop}{a:Act}{w:World}(h:iE F n P c Q a w):(Code.loop c).wpIn F n P Q a w :=
 fun b k cs Cq hb hr=>let ⟨e,a',w',hq,fP⟩:=h b k cs Cq hb hr;⟨e,a',w',hq,.of_steps (.one (fenced_calm hb hr rfl) stepR_loop) fP⟩
section
variable {P:Program} {w0 w ws:World} {g g0:Ctx} {H H0 H':aa} {R:ai} {a:Act} {n:Nat} {ops:Array Oper} {r:Option Nat} {mu:Bool} {i:Nat} {o:Oper} {st iY:List Rd}
theorem fU {y:O}(hc:bW P n ops mu o st=some y):∀t∈tmpsOf o y.op y.g,t<n:=by
 obtain⟨op,gd,_,_,rfl,h,_⟩:=aq hc;exact h
theorem nZ {d:Option Nat}{op:tn}{gd:Gd}(ho:ops[i]?=some o)(hc:bW P n ops mu o st=some ⟨d,op,gd,iY⟩)(hn:a.tmps.size=n)(hr:cy g w R a (tmpsOf o op gd))(hw:au R gd=false)
  {K:Act→World→Prop} {Q:Exit→Act→World→Prop} (hk:K (a.put d undef) w):wpOpIn (Fw r) 0 P ops Q i K a w:=by
 obtain⟨yg,yh,h1,h2,h3,h4,h5⟩:=aq hc
 cases h3
 unfold wpOpIn
 simp only[ho,gy h2 hn (fun t ht=>h4 t (by simp[tmpsOf,ht])) (hr.sub fun t ht=>by simp[tmpsOf,ht]),hw]
 exact⟨fun _ _=>trivial,hk⟩
theorem cT {d:Option Nat}{op:tn}{gd:Gd}(ho:ops[i]?=some o)(hc:bW P n ops mu o st=some ⟨d,op,gd,iY⟩)(hn:a.tmps.size=n)(hr:cy g w R a (tmpsOf o op gd))(hw:au R gd=true)
  {K:Act→World→Prop} {Q:Exit→Act→World→Prop} (hk:o.wpIn (Fw r) 0 P a w K Q):wpOpIn (Fw r) 0 P ops Q i K a w:=by
 obtain⟨yg,yh,h1,h2,h3,h4,h5⟩:=aq hc
 cases h3
 unfold wpOpIn
 simp only[ho,gy h2 hn (fun t ht=>h4 t (by simp[tmpsOf,ht])) (hr.sub fun t ht=>by simp[tmpsOf,ht]),hw,if_true]
 exact hk
theorem eT {op:tn}{gd:Gd}(hr:cy g w R a (tmpsOf o op gd)):cy g w R a (bP o.op.operands.toList):=hr.sub fun t ht=>by simp[tmpsOf,ht]
theorem kF {d:Option Nat}{b:Bo}{gd:Gd}{t:T}(ho:ops[i]?=some o)(hc:bW P n ops mu o st=some ⟨d,.b b,gd,iY⟩)(hn:a.tmps.size=n)(hr:cy g w R a (tmpsOf o (.b b) gd))(hw:au R gd=true)
  (h:SR w0 g H w) (he:ae R H b=some (t,H')) :
  ∃v w' g',(∀(K:Act→World→Prop) (Q:Exit→Act→World→Prop),K (a.put d v) w'→wpOpIn (Fw r) 0 P ops Q i K a w)∧Le g w g' w'∧SR w0 g' H' w'∧VR g' w' t v∧Fr g H g' H':=by
 obtain⟨yg,yh,h1,h2,h3,h4,h5⟩:=aq hc
 cases h3
 obtain⟨v,w',g',hs,rest⟩:=qI (r:=r) h1 h (eT hr) he
 exact⟨v,w',g',fun K Q hk=>cT ho hc hn hr hw (hs K Q hk),rest⟩
theorem lU {d:Option Nat}{x:X}{gd:Gd}{b bi:Nat}{es:List (T×T)}{ix:List Nat}{cur:Option Nat}(ho:ops[i]?=some o)(hc:bW P n ops mu o st=some ⟨d,.b (.gO x),gd,iY⟩)(hn:a.tmps.size=n)(hr:cy g w R a (tmpsOf o (.b (.gO x)) gd))(hw:au R gd=true)
  (h:SR w0 g H w) (hx:x.ev R=.ptr bi 0) (hb:H[b]?=some (.cn es ix bi cur)) :
  ∃t H' v w' g',fH H b bi es ix t H'∧(∀(K:Act→World→Prop) (Q:Exit→Act→World→Prop),K (a.put d v) w'→wpOpIn (Fw r) 0 P ops Q i K a w)∧Le g w g' w'∧SR w0 g' H' w'∧VR g' w' t v∧Fr g H g' H':=by
 obtain⟨yg,yh,h1,h2,h3,h4,h5⟩:=aq hc
 cases h3
 obtain⟨t,H',v,w',g',u4,hs,rest⟩:=qJ (r:=r) h1 h (eT hr) hx hb
 exact⟨t,H',v,w',g',u4,fun K Q hk=>cT ho hc hn hr hw (hs K Q hk),rest⟩
theorem jL {d:Option Nat}{neg:Bool}{x y:X}{gd:Gd}(ho:ops[i]?=some o)(hc:bW P n ops mu o st=some ⟨d,.b (.eM neg .slice x y),gd,iY⟩)(hn:a.tmps.size=n)(hr:cy g w R a (tmpsOf o (.b (.eM neg .slice x y)) gd))(hw:au R gd=true)
  (hx:x.ev R=.sl .arg []) (hy:y.ev R=.sl .nil []):∃b:Bool,∀(K:Act→World→Prop) (Q:Exit→Act→World→Prop),K (a.put d (.bool b)) w→wpOpIn (Fw r) 0 P ops Q i K a w:=by
 obtain⟨yg,yh,h1,h2,h3,h4,h5⟩:=aq hc
 cases h3
 obtain⟨b,hs⟩:=pw (r:=r) h1 (eT hr) hx hy
 exact⟨b,fun K Q hk=>cT ho hc hn hr hw (hs K Q hk)⟩
theorem jM {d:Option Nat}{f:Nat}{as:List X}{gd:Gd}{M:T→aa→Prop}(ho:ops[i]?=some o)(hc:bW P n ops mu o st=some ⟨d,.call f as,gd,iY⟩)(hn:a.tmps.size=n)(hr:cy g w R a (tmpsOf o (.call f as) gd))(hw:au R gd=true)
  (ih:∀args,ax g w (as.map (X.ev R)) args→bq P f=true∧CallsIn (Fw none) 0 P f args.toArray w (jK w0 g w H M)) {K:Act→World→Prop} {Q:Exit→Act→World→Prop}
  (hk:∀v w' g' H' t,M t H'→Le g w g' w'→SR w0 g' H' w'→VR g' w' t v→Fr g H g' H'→K (a.put d v) w'):wpOpIn (Fw r) 0 P ops Q i K a w:=by
 obtain⟨yg,yh,h1,h2,h3,h4,h5⟩:=aq hc
 cases h3
 obtain⟨args,hv,hs⟩:=pk (r:=r) h1 (eT hr)
 obtain⟨k1,k2⟩:=ih args hv
 exact cT ho hc hn hr hw (hs K Q k1 (k2.mono fun e w' ⟨v,t,g',H',he,hM,le,sr,bR,fr⟩=>⟨v,he,hk v w' g' H' t hM le sr bR fr⟩))
theorem iG {d:Option Nat}{x:X}{f:Nat}{cs:List T}{as:List X}{gd:Gd}{M:T→aa→Prop}(ho:ops[i]?=some o)(hc:bW P n ops mu o st=some ⟨d,.a6 x as,gd,iY⟩)(hn:a.tmps.size=n)(hr:cy g w R a (tmpsOf o (.a6 x as) gd))(hw:au R gd=true)
  (hx:x.ev R=.fn f cs) (ih:∀args,ax g w (as.map (X.ev R)++cs) args→bq P f=true∧CallsIn (Fw none) 0 P f args.toArray w (jK w0 g w H M)) {K:Act→World→Prop} {Q:Exit→Act→World→Prop}
  (hk:∀v w' g' H' t,M t H'→Le g w g' w'→SR w0 g' H' w'→VR g' w' t v→Fr g H g' H'→K (a.put d v) w'):wpOpIn (Fw r) 0 P ops Q i K a w:=by
 obtain⟨yg,yh,h1,h2,h3,h4,h5⟩:=aq hc
 cases h3
 obtain⟨args,hv,hs⟩:=ng (r:=r) h1 (eT hr) hx
 obtain⟨k1,k2⟩:=ih args hv
 exact cT ho hc hn hr hw (hs K Q k1 (k2.mono fun e w' ⟨v,t,g',H',he,hM,le,sr,bR,fr⟩=>⟨v,he,hk v w' g' H' t hM le sr bR fr⟩))
theorem dg.put {d:Option Nat}{v:Value}{t:T}{w':World}{g':Ctx}(h:dg g w n R a)(hd:∀e,d=some e→e<n)(le:Le g w g' w')(hv:VR g' w' t v):dg g' w' n (ay R d t) (a.put d v):=by
 refine⟨by rw[iB];exact h.1,fun u hu=>?_⟩
 rw[iA _ _ _ _ (by rw[h.1];exact hd)]
 split
 ·rename_i e;rw[e,dr];exact hv
 ·rename_i e;rw[aP e];exact(h.2 u hu).mono le
theorem dg.rg (h:dg g w n R a){ts:List Nat}(ht:∀t∈ts,t<n):cy g w R a ts:=fun t hm=>h.2 t (ht t hm)
end
section
variable {P:Program} {n:Nat} {ops:Array Oper} {mu:Nat→Bool} {w0 ws:World} {df:List Deferred} {mk:T} {g0:Ctx} {H0:aa} {pre:List It} {r:Option Nat} {x:It} {o:Oper} {Q:Out→aa→Prop}
def left (L:Array Bool):Nat:=L.toList.count false
theorem iH {L:Array Bool}{i:Nat}(hi:i<L.size)(hf:L.getD i false=false):left (L.setIfInBounds i true)+1=left L:=by
 unfold left
 rw[Array.toList_setIfInBounds,List.count_set (by simpa using hi)]
 have hg:L.toList[i]'(by simpa using hi)=false:=by
  rw[Array.getD_eq_getD_getElem?,Array.getElem?_eq_getElem hi,Option.getD_some]at hf
  simpa using hf
 have xU:0<L.toList.count false:=List.count_pos_iff.2 (hg▸List.getElem_mem _)
 rw[hg]
 have e1:((false==false:Bool)=true):=rfl
 have e2:¬((true==false:Bool)=true):=by decide
 rw[if_pos e1,if_neg e2]
 omega
theorem jN {L:Array Bool}(h:left L=0){i:Nat}(hi:i<L.size):L.getD i false=true:=by
 cases e:L.getD i false with
 | true=>rfl
 | false=>have:=iH hi e;omega
theorem jO {L:Array Bool}(cX:L.size=ops.size)(xZ:∀i o,ops[i]?=some o→∀j∈aV o,j<i)(h:Region.ready .any ops L=[]):∀i,i<ops.size→L.getD i false=true:=by
 intro i
 induction i using Nat.strongRecOn with
 | _ i ih =>
  intro hi
  cases e:L.getD i false with
  | true=>rfl
  | false =>
   have:i∈Region.ready .any ops L:=by
    rw[mem_ready]
    refine⟨?_,ops[i],Array.getElem?_eq_getElem hi,fun ed he hb=>?_⟩
    ·have fY:i<L.size:=by omega
     rw[Array.getD_eq_getD_getElem?,Array.getElem?_eq_getElem fY]at e ⊢;exact e
    ·have hj:ed.on∈aV ops[i]:=by simp only[aV,List.mem_map,List.mem_filter];exact⟨ed,⟨by simpa using he,hb⟩,rfl⟩
     have:=xZ i _ (Array.getElem?_eq_getElem hi) _ hj
     exact ih _ this (by omega)
   rw[h]at this;cases this
theorem py {R:ai}{H:aa}(et:∀i,i<ops.size→∃y∈pre,y.i=i)(hQ:Q (.ex .normal R) H):∀(fuel:Nat) (L:Array Bool) (g:Ctx) (a:Act) (w:World),left L≤fuel→Dr P n ops mu w0 df mk g0 ws H0 pre L g R H a w →
  wpAnyIn (Fw r) 0 P .any ops (nr w0 n df mk g0 ws H0 Q) fuel L a w:=by
 have fin:∀(L:Array Bool) (g:Ctx) (a:Act) (w:World),Dr P n ops mu w0 df mk g0 ws H0 pre L g R H a w→(∀i,i<ops.size→L.getD i false=true)→nr w0 n df mk g0 ws H0 Q .normal a w:=by
  intro L g a w h hl
  refine⟨.normal,R,g,H,rfl,hQ,h.le,h.sr,⟨h.kD,fun t ht=>h.kE t ht fun y hy hu=>?_⟩,h.fr,h.wq,h.wu⟩
  obtain⟨o,ho,_⟩:=h.cmp y hy
  rw[hl y.i (Array.getElem?_eq_some_iff.1 ho).1]at hu;cases hu
 have xZ:∀(L:Array Bool) (g:Ctx) (a:Act) (w:World),Dr P n ops mu w0 df mk g0 ws H0 pre L g R H a w→∀i o,ops[i]?=some o→∀j∈aV o,j<i:=by
  intro L g a w h i o ho
  obtain⟨y,hy,rfl⟩:=et i (Array.getElem?_eq_some_iff.1 ho).1
  exact h.jj y hy o ho
 intro fuel
 induction fuel with
 | zero =>
  intro L g a w hL h
  have hl:∀i,i<ops.size→L.getD i false=true:=fun i hi=>jN (by omega) (by rw[h.ni];exact hi)
  refine⟨?_,fin L g a w h hl⟩
  refine List.eq_nil_iff_forall_not_mem.2 fun i hi=>?_
  obtain⟨h1,o,h2,_⟩:=eS hi
  rw[hl i (Array.getElem?_eq_some_iff.1 h2).1]at h1;cases h1
 | succ fuel ih =>
  intro L g a w hL h
  refine⟨fun hr=>fin L g a w h (jO h.ni (xZ L g a w h) hr),fun i hi=>?_⟩
  obtain⟨h1,o,h2,_⟩:=eS hi
  have aD:=(Array.getElem?_eq_some_iff.1 h2).1
  obtain⟨y,hy,rfl⟩:=et i aD
  obtain⟨v,w',g',hs,hd⟩:=h.late (r:=r) hy hi
  have:=iH (by rw[h.ni];exact aD) h1
  exact hs _ _ (ih _ _ _ _ (by omega) hd)
theorem bF {R:ai}{H:aa}{Tl:ai→aa→Prop}{Qx:Exit→Act→World→Prop}{l:List It}(hd:Hd P n ops mu pre x o)(hx:x.early=false)(et:∀i,i<ops.size→∃y∈pre++x :: l,y.i=i)
  (zX:∀y∈l,(∃o,ops[y.i]?=some o∧(∀j∈aV o,j<y.i))∧∀z∈pre++[x],z.early=true∨((bM ops.toList []).getD y.i 0).testBit z.i=true)
  (hT:∀R' H',Tl R' H'→∀fuel L' g' a' w',left L'≤fuel→Dr P n ops mu w0 df mk g0 ws H0 (pre++[x]) L' g' R' H' a' w'→wpAnyIn (Fw r) 0 P .any ops Qx fuel L' a' w')
  (hX:∀L g a w,Dr P n ops mu w0 df mk g0 ws H0 pre L g R H a w→(∀j∈aV o,L.getD j false=true)→∀K:Act→World→Prop,
   (∀R' H' g' a' w',Tl R' H'→Dr P n ops mu w0 df mk g0 ws H0 (pre++[x]) (L.setIfInBounds x.i true) g' R' H' a' w'→K a' w')→wpOpIn (Fw r) 0 P ops Qx x.i K a w) :
  ∀(fuel:Nat) (L:Array Bool) (g:Ctx) (a:Act) (w:World),left L≤fuel→Dr P n ops mu w0 df mk g0 ws H0 pre L g R H a w→wpAnyIn (Fw r) 0 P .any ops Qx fuel L a w:=by
 have tv:x.i<ops.size:=(Array.getElem?_eq_some_iff.1 hd.ho).1
 intro fuel
 induction fuel with
 | zero =>
  intro L g a w hL h
  have h1:=h.fv hd
  rw[jN (by omega) (by rw[h.ni];exact tv)]at h1;cases h1
 | succ fuel ih =>
  intro L g a w hL h
  have xz:=h.fv hd
  refine⟨fun hr=>?_,fun i hi=>?_⟩
  ·have hl:=jO h.ni (fun i o' fp j hj=>?_) hr x.i tv
   ·rw[hl]at xz;cases xz
   ·obtain⟨y,hy,rfl⟩:=et i (Array.getElem?_eq_some_iff.1 fp).1
    rcases List.mem_append.1 hy with hy|hy
    ·exact h.jj y hy o' fp j hj
    ·rcases List.mem_cons.1 hy with rfl|hy
     ·rw[hd.ho]at fp;cases fp;exact(hd.pred j hj).1
     ·obtain⟨⟨o2,h2,h3⟩,_⟩:=zX y hy
      rw[h2]at fp;cases fp;exact h3 j hj
  ·obtain⟨h1,o',h2,h3⟩:=eS hi
   have aD:=(Array.getElem?_eq_some_iff.1 h2).1
   have GA:=iH (by rw[h.ni];exact aD) h1
   obtain⟨y,hy,rfl⟩:=et i aD
   rcases List.mem_append.1 hy with hy|hy
   ·obtain⟨v,w',g',hs,Dl⟩:=h.late (r:=r) hy hi
    exact hs _ _ (ih _ _ _ _ (by omega) Dl)
   ·rcases List.mem_cons.1 hy with rfl|hy
    ·rw[hd.ho]at h2;cases h2
     exact hX L g a w h h3 _ fun R' H' g' a' w' ht Dl=>hT R' H' ht fuel _ g' a' w' (by omega) Dl
    ·obtain⟨⟨o2,h4,h5⟩,h6⟩:=zX y hy
     rw[h2]at h4;cases h4
     rcases h6 x (by simp)with h7|h7
     ·rw[hx]at h7;cases h7
     ·have:=h.bit h2 (fun j hj=>⟨h5 j hj,h3 j hj⟩) h7
      rw[xz]at this;cases this
end
def Dm (P : Program) : J → aa → (Out → aa → Prop) → Prop
  | .code c R, H, Q => ∀(w0 : World) (g : Ctx) (w : World) (a : Act) (n : Nat) (an : An) (top : Bool) (code : Code) (r : Option Nat), aw P n an top code = some c → (top = true → r = none) → b6 P g → SR w0 g H w → dg g w n R a →
      code.wpIn (Fw r) 0 P (eF w0 n c.ej a.defers (R n) g w H Q) a w ∧ ∀body, code = .loop body → iE (Fw r) 0 P body (eF w0 n c.ej a.defers (R n) g w H Q) a w
  | .ops l R, H, Q => (∀(w0 : World) (g0 : Ctx) (ws : World) (H0 : aa) (g : Ctx) (w : World) (a : Act) (n : Nat) (ops : Array Oper) (mu : Nat → Bool) (is : List Nat) (r : Option Nat), cm P n ops mu is = some l → b6 P g → SR w0 g H w → dg g w n R a →
        Le g0 ws g w → Fr g0 H0 g H → wpOpsIn (Fw r) 0 P ops (nr w0 n a.defers (R n) g0 ws H0 Q) is a w) ∧
      (∀(w0 : World) (n : Nat) (ops : Array Oper) (mu : Nat → Bool) (df : List Deferred) (mk : T) (g0 : Ctx) (ws : World) (H0 : aa) (pre : List It) (L : Array Bool) (g : Ctx) (a : Act) (w : World) (ord : List (Nat×Bool)) (dL : List It) (r : Option Nat) (fuel : Nat),
        b6 P g → bA P n ops mu (bM ops.toList []) pre ord = some dL → dL.map (·.o) = l → Dr P n ops mu w0 df mk g0 ws H0 pre L g R H a w → left L ≤ fuel → wpAnyIn (Fw r) 0 P .any ops (nr w0 n df mk g0 ws H0 Q) fuel L a w)
  | .call f as, H, Q => ∀(w0 : World) (g : Ctx) (w : World) (args : List Value), b6 P g → SR w0 g H w → ax g w as args → bq P f = true ∧ CallsIn (Fw none) 0 P f args.toArray w (jK w0 g w H fun v H' => Q (.val v) H')
theorem eF.trans {w0 w w':World}{n:Nat}{hr e6:Bool}{df Dn:List Deferred}{mk mk':T}{g g':Ctx}{H H':aa}{Q:Out→aa→Prop}(le:Le g w g' w')(fr:Fr g H g' H')(hm:Mk g mk df→Mk g' mk' Dn)(hh:hr=false→e6=false∧mk'=mk∧Dn=df)
  {e:Exit} {a:Act} {u:World} (h:eF w0 n e6 Dn mk' g' w' H' Q e a u):eF w0 n hr df mk g w H Q e a u:=by
 obtain⟨ex,R',g2,H2,h1,h2,h3,h4,h5,h6,h7,h8⟩:=h
 refine⟨ex,R',g2,H2,h1,h2,le.trans h3,h4,h5,fr.trans h6,fun m=>h7 (hm m),fun e=>?_⟩
 obtain⟨k1,k2,k3⟩:=hh e
 obtain⟨k4,k5⟩:=h8 k1
 exact⟨k4.trans k2,k5.trans k3⟩
theorem nr.Fz {w0 w:World}{n:Nat}{hr:Bool}{df:List Deferred}{mk:T}{g:Ctx}{H:aa}{Q:Out→aa→Prop}{e:Exit}{a:Act}{u:World}(h:nr w0 n df mk g w H Q e a u):eF w0 n hr df mk g w H Q e a u:=by
 obtain⟨ex,R',g2,H2,h1,h2,h3,h4,h5,h6,h7,h8⟩:=h
 exact⟨ex,R',g2,H2,h1,h2,h3,h4,h5,h6,fun m=>by rw[h7,h8];exact m.mono h3,fun _=>⟨h8,h7⟩⟩
section
variable {P:Program} {n:Nat} {an:An} {top:Bool} {code:Code}
theorem qO (h:aw P n an top code=some .skip):code=.skip:=by
 cases code<;>(try simp only[aw]at h)
 case region id ops draw=>cases draw<;>simp only[aw]at h<;>(repeat' split at h)<;>simp at h
 all_goals first|rfl|(cases h;done)|((repeat' split at h)<;>simp at h;done)|(simp at h;done)
theorem qP {id:Nat}(h:aw P n an top code=some (.exit id)):code=.exit id:=by
 cases code<;>(try simp only[aw]at h)
 case region id ops draw=>cases draw<;>simp only[aw]at h<;>(repeat' split at h)<;>simp at h
 all_goals first|(cases h;rfl)|(cases h;done)|((repeat' split at h)<;>simp at h;done)|(simp at h;done)
theorem ve (h:aw P n an top code=some .ret):code=.ret:=by
 cases code<;>(try simp only[aw]at h)
 case region id ops draw=>cases draw<;>simp only[aw]at h<;>(repeat' split at h)<;>simp at h
 all_goals first|rfl|(cases h;done)|((repeat' split at h)<;>simp at h;done)|(simp at h;done)
theorem vg {x y:C}(h:aw P n an top code=some (.seq x y)):∃c d,code=.seq c d∧aw P n an top c=some x∧aw P n an top d=some y:=by
 cases code<;>(try simp only[aw]at h)
 case region id ops draw=>cases draw<;>simp only[aw]at h<;>(repeat' split at h)<;>simp at h
 case seq c d =>
  split at h
  ·rename_i h1 h2;cases h;exact⟨c,d,rfl,h1,h2⟩
  ·cases h
 all_goals first|(cases h;done)|((repeat' split at h)<;>simp at h;done)|(simp at h;done)
theorem qQ {c:X}{x y:C}(h:aw P n an top code=some (.cond c x y)):∃o d e,code=.cond o d e∧aj o=some c∧aw P n an top d=some x∧aw P n an top e=some y∧∀t,o=.tmp t→t<n:=by
 cases code<;>(try simp only[aw]at h)
 case region id ops draw=>cases draw<;>simp only[aw]at h<;>(repeat' split at h)<;>simp at h
 case cond o d e =>
  split at h
  ·rename_i h1 h2 h3
   cases o with
   | tmp t =>
    simp only[decide_eq_true_eq]at h
    split at h
    ·rename_i h4;cases h;exact⟨_,d,e,rfl,h1,h2,h3,fun t' ht=>by cases ht;exact h4⟩
    ·cases h
   | _=>simp at h;obtain⟨rfl,rfl,rfl⟩:=h;exact⟨_,d,e,rfl,h1,h2,h3,fun t ht=>by cases ht⟩
  ·cases h
 all_goals first|(cases h;done)|((repeat' split at h)<;>simp at h;done)|(simp at h;done)
theorem pz {id:Nat}{x:C}(h:aw P n an top code=some (.block id x)):∃c,code=.block id c∧aw P n an top c=some x:=by
 cases code<;>(try simp only[aw]at h)
 case region id ops draw=>cases draw<;>simp only[aw]at h<;>(repeat' split at h)<;>simp at h
 case block GB c =>
  simp only[Option.map_eq_some_iff]at h
  obtain⟨x',h1,h2⟩:=h
  cases h2;exact⟨c,rfl,h1⟩
 all_goals first|(cases h;done)|((repeat' split at h)<;>simp at h;done)|(simp at h;done)
theorem qR {x:C}(h:aw P n an top code=some (.loop x)):∃c,code=.loop c∧aw P n an top c=some x:=by
 cases code<;>(try simp only[aw]at h)
 case region id ops draw=>cases draw<;>simp only[aw]at h<;>(repeat' split at h)<;>simp at h
 case loop c =>
  simp only[Option.map_eq_some_iff]at h
  obtain⟨x',h1,h2⟩:=h
  cases h2;exact⟨c,rfl,h1⟩
 all_goals first|(cases h;done)|((repeat' split at h)<;>simp at h;done)|(simp at h;done)
theorem pA {m:Nat}{x:X}{ps:List Nat}{y z:C}(h:aw P n an top code=some (.bo m x ps y z)):∃g qs c d,code=.rangeFunc g qs c d∧aj g=some x∧aw P n an false c=some y∧aw P n an false d=some z∧top=true∧(∀t∈bn x,t<n)∧qs.toList=ps∧(∀p∈ps,p<n)∧m=n:=by
 cases code<;>(try simp only[aw]at h)
 case region id ops draw=>cases draw<;>simp only[aw]at h<;>(repeat' split at h)<;>simp at h
 case rangeFunc g qs c d =>
  split at h
  ·rename_i h1 h2 h3
   split at h
   ·rename_i h4
    cases h
    simp only[Bool.and_eq_true,List.all_eq_true,decide_eq_true_eq]at h4
    exact⟨g,qs,c,d,rfl,h1,h2,h3,h4.1.1,h4.1.2,rfl,h4.2,rfl⟩
   ·cases h
  ·cases h
 all_goals first|(cases h;done)|((repeat' split at h)<;>simp at h;done)|(simp at h;done)
theorem vj {l:List O}(h:aw P n an top code=some (.ops l)):∃id ops mu,(code=.region id ops false∧cm P n ops mu (List.range ops.size)=some l) ∨
  (code=.region id ops true∧∃ord dL,bA P n ops mu (bM ops.toList []) [] ord=some dL∧dL.map (·.o)=l):=by
 cases code<;>(try simp only[aw]at h)
 case region id ops draw =>
  cases draw<;>simp only[aw]at h
  ·simp only[Option.map_eq_some_iff]at h
   obtain⟨l',h1,h2⟩:=h
   cases h2;exact⟨id,ops,_,.inl ⟨rfl,h1⟩⟩
  ·split at h
   ·rename_i ord _
    simp only[Option.map_eq_some_iff]at h
    obtain⟨dL,h1,h2⟩:=h
    cases h2;exact⟨id,ops,_,.inr ⟨rfl,ord,dL,h1,rfl⟩⟩
   ·cases h
 all_goals first|(cases h;done)|((repeat' split at h)<;>simp at h;done)|(simp at h;done)
end
theorem bd {P:Program}{n:Nat}{ops:Array Oper}{mu:Nat→Bool}{is:List Nat}{o:O}{l:List O}(h:cm P n ops mu is=some (o :: l)) :
  ∃i iZ oper,is=i :: iZ∧ops[i]?=some oper∧bW P n ops (mu i) oper []=some o∧cm P n ops mu iZ=some l:=by
 cases is with
 | nil=>simp[cm]at h
 | cons i iZ =>
  simp only[cm]at h
  split at h
  ·rename_i oper ho
   split at h
   ·rename_i h1 h2;cases h;exact⟨i,iZ,oper,rfl,ho,h1,h2⟩
   ·cases h
  ·cases h
theorem lV {P:Program}{n:Nat}{ops:Array Oper}{mu:Nat→Bool}{is:List Nat}(h:cm P n ops mu is=some []):is=[]:=by
 cases is with
 | nil=>rfl
 | cons i iZ =>
  simp only[cm]at h
  split at h
  ·split at h<;>simp at h
  ·cases h
theorem cz {P:Program}{n:Nat}{ops:Array Oper}{mu:Nat→Bool}{pre:List It}{ord:List (Nat×Bool)}{dL:List It}{o:O}{l:List O}(h:bA P n ops mu (bM ops.toList []) pre ord=some dL)(hm:dL.map (·.o)=o :: l) :
  ∃x l' bS oper,dL=x :: l'∧x.o=o∧l'.map (·.o)=l∧Hd P n ops mu pre x oper∧bA P n ops mu (bM ops.toList []) (pre++[x]) bS=some l':=by
 cases ord with
 | nil =>
  simp only[bA]at h
  split at h
  ·cases h;simp at hm
  ·cases h
 | cons y bS =>
  obtain⟨x,l',oper,rfl,h1,h2⟩:=ea h
  simp only[List.map_cons,List.cons.injEq]at hm
  exact⟨x,l',bS,oper,rfl,hm.1,hm.2,h1,h2⟩
section
variable {P:Program} {n:Nat} {ops:Array Oper} {mu:Nat→Bool} {w0 w ws:World} {df:List Deferred} {mk:T} {g g0:Ctx} {H H0 H':aa} {pre:List It} {L:Array Bool} {R:ai} {a:Act} {r:Option Nat} {x:It} {o:Oper}
theorem Hd.sub (hd:Hd P n ops mu pre x o)(v:T):(∀t∈e8 x.o.g,ay R x.o.d v t=R t)∧∀t∈lH x.o.op,ay R x.o.d v t=R t:=by
 obtain⟨t1,t2,_⟩:=cP hd.ts
 exact⟨fun t ht=>aP fun e=>(hd.dst t e).2 (t1 t ht),fun t ht=>aP fun e=>(hd.dst t e).2 (t2 t ht)⟩
theorem Dr.vn (h:Dr P n ops mu w0 df mk g0 ws H0 pre L g R H a w)(hd:Hd P n ops mu pre x o)(he:x.early=true)(hw:au R x.o.g=false):Dr P n ops mu w0 df mk g0 ws H0 (pre++[x]) L g (ay R x.o.d av) H a w:=by
 refine h.take hd he (.inl ⟨?_,fun d e=>by rw[e,dr]⟩) (.inl rfl) fun k hk=>?_
 ·rw[eE (R':=R) (hd.sub av).1];exact hw
 ·unfold dZ at hk
  split at hk
  ·rename_i e _;rw[e,dr]at hk;cases hk
  ·rename_i e _;rw[e,dr]at hk;cases hk
  ·cases hk
theorem Dr.vo {b:Bo}{v:T}(h:Dr P n ops mu w0 df mk g0 ws H0 pre L g R H a w)(hd:Hd P n ops mu pre x o)(he:x.early=true)(hb:x.o.op=.b b)(hw:au R x.o.g=true)(hv:ae R H b=some (v,H')) :
  Dr P n ops mu w0 df mk g0 ws H0 (pre++[x]) L g (ay R x.o.d v) H' a w:=by
 obtain⟨k1,k2⟩:=hd.kl he
 cases vq:x.o.d with
 | none=>exact absurd (by simp[tD,hb,vq]) k1
 | some d =>
  have GC:tD x.o=gx b:=by simp[tD,hb,vq]
  rw[GC]at k1 k2
  have mY:au (ay R x.o.d v) x.o.g=true:=by rw[eE (R':=R) (hd.sub v).1];exact hw
  have GD:∀H2,ae (ay R x.o.d v) H2 b=ae R H2 b:=fun H2=>iz fun t ht=>(hd.sub v).2 t (by rw[hb];exact ht)
  have Dp:ay R x.o.d v d=v:=by rw[vq,dr]
  rw[←vq]
  have hq:(gx b=.pure∨gx b=.read)→H'=H→Dr P n ops mu w0 df mk g0 ws H0 (pre++[x]) L g (ay R x.o.d v) H' a w:=by
   rintro hk rfl
   refine h.take hd he (.inr ⟨mY,d,b,vq,hb,.inl ⟨hk,by rw[GD,Dp];exact hv⟩⟩) (.inl rfl) fun k hm=>?_
   unfold dZ at hm
   rw[hb]at hm
   split at hm
   ·rename_i h1;cases h1;simp[gx]at hk
   ·rename_i h1;cases h1;simp[gx]at hk
   ·cases hm
  cases hk:gx b with
  | wo=>exact absurd hk k1
  | pure=>exact hq (.inl hk) (eQ hk hv).1
  | read=>exact hq (.inr hk) (eR hk hv).1
  | make =>
   have FA:H0.length≤H.length:=h.fr.1
   cases b<;>simp only[gx]at hk<;>(try (cases hk;done))
   case eM=>split at hk<;>cases hk
   case alloc z =>
    simp only[ae,Option.some.injEq,Prod.mk.injEq]at hv
    obtain⟨rfl,rfl⟩:=hv
    refine h.take hd he (.inr ⟨mY,d,_,vq,hb,.inr (.inl ⟨H.length,z,rfl,Dp,bm _ _,h.sr.tw (Nat.le_refl _),FA⟩)⟩) (.inr ⟨_,rfl,.inl ⟨_,rfl⟩⟩) fun k hm=>?_
    simp only[dZ,vq,hb,dr,fb,Option.some.injEq]at hm
    omega
   case nF =>
    simp only[ae,Option.some.injEq,Prod.mk.injEq]at hv
    obtain⟨rfl,rfl⟩:=hv
    refine h.take hd he (.inr ⟨mY,d,_,vq,hb,.inr (.inr ⟨H.length,rfl,Dp,bm _ _,h.sr.tw (Nat.le_refl _),FA⟩)⟩) (.inr ⟨_,rfl,.inr ⟨_,rfl⟩⟩) fun k hm=>?_
    simp only[dZ,vq,hb,dr,fb,Option.some.injEq]at hm
    omega
theorem Dr.bG (h:Dr P n ops mu w0 df mk g0 ws H0 pre L g R H a w)(hd:Hd P n ops mu pre x o)(hp:∀j∈aV o,L.getD j false=true):cy g w R a (tmpsOf o x.o.op x.o.g) :=
 h.look hd.ho (fun j hj=>⟨(hd.pred j hj).1,hp j hj⟩) (fU hd.co) fun z hz _ d hC ht=>hd.Di z hz d hC (by rw[hd.ts];exact ht)
theorem Dr.stays (h:Dr P n ops mu w0 df mk g0 ws H0 pre L g R H a w)(hd:Hd P n ops mu pre x o)(he:x.early=false)(hp:∀j∈aV o,L.getD j false=true)(hs:cF R H' x.o.gP) :
  ∀y∈pre,L.getD y.i false=false→∀d b,au R y.o.g=true→y.o.d=some d→y.o.op=.b b→gx b=.read→ae R H b=some (R d,H)→ae R H' b=some (R d,H'):=by
 intro y hy hu d b hw u5 GF hk _
 have nX:y.early=true:=by cases e:y.early with|true=>rfl|false=>rw[h.iC y hy e]at hu;cases hu
 have Dq:((bM ops.toList []).getD x.i 0).testBit y.i=false:=by
  cases e:((bM ops.toList []).getD x.i 0).testBit y.i with
  | false=>rfl
  | true=>rw[h.bit hd.ho (fun j hj=>⟨(hd.pred j hj).1,hp j hj⟩) e]at hu;cases hu
 have hm:=iD pre hy nX u5 GF hk Dq
 rw[←hd.st he]at hm
 exact hs _ hm hw
end
theorem lW {g:Ctx}{w:World}{n:Nat}:∀(ps:List Nat) (vs:List T) (us:List Value) (R:ai) (tmps:Array Value),ax g w vs us→vs.length=ps.length→tmps.size=n→(∀t,t<n→VR g w (R t) (tmps.getD t undef))→(∀p∈ps,p<n) →
  ((ps.zip us).foldl (fun tmps (t,a)=>tmps.setIfInBounds t a) tmps).size=n∧∀t,t<n→VR g w (fE R ps vs t) (((ps.zip us).foldl (fun tmps (t,a)=>tmps.setIfInBounds t a) tmps).getD t undef)
 | [],vs,us,R,tmps,hv,hl,hn,hr,_=>by
  cases vs with
  | nil=>exact⟨by simpa using hn,by simpa[fE]using hr⟩
  | cons _ _=>simp at hl
 | p :: ps,[],us,R,tmps,hv,hl,hn,hr,_=>by simp at hl
 | p :: ps,v :: vs,[],R,tmps,hv,hl,hn,hr,_=>by have:=hv.1;simp at this
 | p :: ps,v :: vs,u :: us,R,tmps,hv,hl,hn,hr,hp=>by
  simp only[List.zip_cons_cons,List.foldl_cons,fE]
  refine lW ps vs us (jc R p v) (tmps.setIfInBounds p u) hv.tail (by simpa using hl) (by simpa using hn) (fun t ht=>?_) (fun q hq=>hp q (by simp[hq]))
  have xN:p<tmps.size:=by rw[hn];exact hp p (by simp)
  by_cases e:p=t
  ·subst e;simp only[jc,if_true];rw[Array.getD_eq_getD_getElem?];simp[xN];exact hv.head
  ·simp only[jc];rw[if_neg (Ne.symm e),Array.getD_eq_getD_getElem?,Array.getElem?_setIfInBounds_ne e,←Array.getD_eq_getD_getElem?];exact hr t ht
section
variable {P:Program} {w0 w ws:World} {g g0:Ctx} {H H0 H':aa} {R:ai} {a:Act} {n:Nat} {ops:Array Oper} {r:Option Nat} {mu:Bool} {i:Nat} {o:Oper} {st iY:List Rd}
theorem qS {e:Ex}(h:e≠.normal):(∃id,e=.exit id∧lg (some e)=some (.exit id))∨(e=.ret∧lg (some e)=some .ret):=by
 cases e with
 | normal=>exact absurd rfl h
 | exit id=>exact .inl ⟨id,rfl,rfl⟩
 | ret=>exact .inr ⟨rfl,rfl⟩
theorem lX {d:Option Nat}{x:X}{as:List X}{gd:Gd}{b m:Nat}{R0:ai}{ps:List Nat}{bf body:C}{M1 M:Out→aa→Prop}(ho:ops[i]?=some o)(hc:bW P n ops mu o st=some ⟨d,.a6 x as,gd,iY⟩)(hn:a.tmps.size=n)(hr:cy g w R a (tmpsOf o (.a6 x as) gd))(hw:au R gd=true)
  (hx:x.ev R=.gY b) (hb:H[b]?=some (.loop .ready none m R0 ps bf body)) (hlen:as.length=ps.length) (ck:b6 P g) (sr:SR w0 g H w)
  (n3:Dm P (.code bf (fE R0 ps (as.map (X.ev R)))) H M1) (p0:∀o H',M1 o H'→(∃R1,o=.ex .normal R1)∧H'[b]?=some (.loop .ready none m R0 ps bf body))
  (ja:∀R1 H1,M1 (.ex .normal R1) H1→Dm P (.code body R1) (H1.set b (.loop .busy none m R0 ps bf body)) M) (mP:∀o H',M o H'→H'[b]?=some (.loop .busy none m R0 ps bf body))
  {K:Act→World→Prop} {Q:Exit→Act→World→Prop}
  (hk:∀v w' g' H' t,((∃R' H2,M (.ex .normal R') H2∧t=.bool true∧H'=H2.set b (.loop .ready none m R0 ps bf body))∨(∃e R' H2,M (.ex e R') H2∧e≠.normal∧t=.bool false∧H'=H2.set b (.loop .done (some e) m R0 ps bf body))) →
   Le g w g' w'→SR w0 g' H' w'→VR g' w' t v→Fr g H g' H'→K (a.put d v) w'):wpOpIn (Fw r) 0 P ops Q i K a w:=by
 obtain⟨yg,yh,h1,h2,h3,h4,h5⟩:=aq hc
 cases h3
 refine cT ho hc hn hr hw ⟨fun _ _=>trivial,?_⟩
 have jB:=cS h1
 obtain⟨t,args,dq,rfl,za,h6⟩:=e9 h1 (by rintro rfl;cases hx)
 have iI:=eT hr
 have hv:=cd (ρ:=a.eval) args.toList as h6 (jI (iI.sub fun t ht=>by
  simp only[bP,List.mem_filterMap]at ht ⊢
  obtain⟨x,hx,e⟩:=ht
  exact⟨x,by rw[za];simp only[Op.operands,Call.operands];simp at hx;simp[hx],e⟩))
 have hf:=iI t (by rw[za];simp only[bP,List.mem_filterMap];exact⟨.tmp t,by simp[Op.operands,Call.operands],rfl⟩)
 simp only[X.ev]at hx
 rw[hx]at hf
 generalize pg:a.tmps.getD t undef=vf at hf
 cases hf with
 | @gY _ l o' q' hφ =>
  obtain⟨k1,rec,k2,k3,k4,k5,k6,k7,k8,k9,GG⟩:=sr.du b _ hb l o' q' hφ
  rw[Oper.semAt_eq _ _ _ jB]
  have cX:(args.toList.map a.eval).toArray.size=rec.params.size:=by
   have:=hv.1;simp at this
   have e2:rec.params.size=ps.length:=by rw[←k5];simp
   simp[e2,←hlen,this]
  have aL:(execOp a.eval o).run P w=.ok (.round l rec.fn ((rec.params.zip (args.toList.map a.eval).toArray).foldl (fun tmps (t,a)=>tmps.setIfInBounds t a) rec.tmps) rec.assign rec.body) w:=by
   have hy:=run_yield (P:=P) (args:=(args.toList.map a.eval).toArray) k2 cX
   have e2:(args.toList.map a.eval).toArray=args.map a.eval:=by rw[←Array.toList_map]
   rw[e2]at hy ⊢
   have e:a.eval (.tmp t)=.func (.yield l) #[] #[]:=pg
   simp only[execOp,za,resolve,e,Deferred.ofValue,invoke]
   simpa using hy
  rw[aL,Oper.uponIn_round]
  refine⟨fun h=>by simp[Fw]at h,roundIn_of_wpIn trivial ?_⟩
  have pQ:(rec.params.zip (args.toList.map a.eval).toArray).foldl (fun tmps (t,a)=>tmps.setIfInBounds t a) rec.tmps=(ps.zip (args.toList.map a.eval)).foldl (fun tmps (t,a)=>tmps.setIfInBounds t a) rec.tmps:=by
   rw[←Array.foldl_toList,Array.toList_zip,k5]
  rw[pQ]
  have mZ:=lW ps (as.map (X.ev R)) (args.toList.map a.eval) R0 rec.tmps hv (by simpa using hlen) k6 k7 k8
  obtain⟨GH,uz⟩:=(ck _ _ _).1 k9
  obtain⟨GI,uA⟩:=(ck _ _ _).1 GG
  refine wpIn_mono (n3 w0 g w { tmps:=(ps.zip (args.toList.map a.eval)).foldl (fun tmps (t,a)=>tmps.setIfInBounds t a) rec.tmps,defers:=[] } m GH false rec.assign (some l) uz (by simp) ck sr mZ).1 fun e a1 w1 hp=>?_
  obtain⟨ex,R1,g1,H1,e1,hm,dy,xW,FB,Ds,-,-⟩:=hp
  obtain⟨⟨II,GJ⟩,ju⟩:=p0 _ _ hm
  cases GJ
  cases e<;>simp only[jl,Option.some.injEq,reduceCtorEq]at e1
  have zf:=dy.φ _ _ hφ
  obtain⟨j1,Dt,j2,j3,j4,j5,j6,j7,j8,j9,FC⟩:=xW.du b _ ju l o' q' zf
  refine⟨_,run_beginRound j2 j3,?_⟩
  obtain⟨vt,wv,wx⟩:=xW.kz (y':=.loop .busy none m R0 ps bf body) (x':=.loop { Dt with state:=.busy }) ju zf j1 j2 rfl rfl (fun w' le mY r o q hq=>by
   rw[zf]at hq;cases hq
   exact⟨j1,_,mY,rfl,j4,j5,j6,fun t ht=>(j7 t ht).mono le,j8,j9,FC⟩)
  refine wpIn_mono (ja _ _ hm w0 g1 _ a1 m GI false rec.body (some l) uA (by simp) (ck.mono dy) wv ⟨FB.1,fun t ht=>(FB.2 t ht).mono vt⟩).1 fun e2 a2 w3 GK=>?_
  obtain⟨Cr,R2,g2,H2,e3,n4,mJ,nu,IJ,pB,-,-⟩:=GK
  have xA:=mP _ _ n4
  have nQ:=mJ.φ _ _ zf
  obtain⟨i1,Du,i2,i3,i4,i5,i6,i7,i8,i9,i10⟩:=nu.du b _ xA l o' q' nQ
  have fin:∀(jump:Option Code) (st:pT) (pe:Option Ex) (v:Bool),lg pe=jump→st.real=(if jump.isNone then .ready else .done)→v=jump.isNone →
    ((v=true∧Cr=.normal∧st=.ready∧pe=none)∨(v=false∧Cr≠.normal∧st=.done∧pe=some Cr)) →
    ∃v' w',(Instr.endRound l jump).run P w3=.ok v' w'∧K (a.put o.dst v') w':=by
   intro jump st pe v q1 q2 q3 q4
   obtain⟨lY,n5,pC⟩:=nu.kz (y':=.loop st pe m R0 ps bf body) (x':=.loop { Du with state:=if jump.isNone then .ready else .done,pending:=jump }) xA nQ i1 i2 rfl rfl (fun w' le mY r o q hq=>by
    rw[nQ]at hq;cases hq
    exact⟨i1,_,mY,q2.symm,q1.symm,i5,i6,fun t ht=>(i7 t ht).mono le,i8,i9,i10⟩)
   refine⟨_,_,run_endRound jump i2,?_⟩
   refine hk _ _ g2 (H2.set b (.loop st pe m R0 ps bf body)) (.bool v) ?_ (((dy.trans vt).trans mJ).trans lY) n5 (by rw[←q3];exact .bool v) (((Ds.trans wx).trans pB).trans pC)
   rcases q4 with⟨rfl,rfl,rfl,rfl⟩|⟨rfl,aG,rfl,rfl⟩
   ·exact .inl ⟨R2,H2,n4,rfl,rfl⟩
   ·exact .inr ⟨Cr,R2,H2,n4,aG,rfl,rfl⟩
  cases e2<;>simp only[jl,Option.some.injEq,reduceCtorEq]at e3<;>subst e3
  case normal=>exact fin none .ready none true rfl rfl rfl (.inl ⟨rfl,rfl,rfl,rfl⟩)
  case exit id=>exact fin (some (.exit id)) .done (some (.exit id)) false rfl rfl rfl (.inr ⟨rfl,by simp,rfl,rfl⟩)
  case ret=>exact fin (some .ret) .done (some .ret) false rfl rfl rfl (.inr ⟨rfl,by simp,rfl,rfl⟩)
end
theorem kG {P:Program}{w0:World}{F:Func}{n:Nat}{t0:T}{res:List Rs}:∀(ts:List T) (df:List Deferred) (bs:List Nat) (g:Ctx) (H:aa) (w:World) (R:ai) (a:Act) (Rr:Ending→World→Prop),
  lS g ts df→hN ts=some bs→bs.Nodup→(∀b∈bs,H[b]?=some .kX)→SR w0 g H w→dg g w n R a →
  (∀w' v,Le g w g w'→SR w0 g (kill H bs) w'→dg g w' n R a→Fr g H g (kill H bs)→(results F a.tmps).run P w'=.ok v w'→VR g w' t0 v→Rr (.returned v) w') →
  fG R (kill H bs) res=some t0→(∀(g:Ctx) (w:World) (H:aa),SR w0 g H w→dg g w n R a→fG R H res=some t0→∃v,(results F a.tmps).run P w=.ok v w∧VR g w t0 v) →
  LeavesInM (Fw none) 0 P F a.tmps Rr df .returning w:=by
 intro ts
 induction ts with
 | nil =>
  intro df bs g H w R a Rr hm hb _ _ sr hr hk gT aL
  cases hm
  simp only[hN,Option.some.injEq]at hb;subst hb
  obtain⟨v,h1,h2⟩:=aL g w H sr hr gT
  exact⟨v,h1,hk w v (.refl _ _) sr hr (.refl _ _) h1 h2⟩
 | cons t ts ih =>
  intro df bs g H w R a Rr hm hb jB vu sr hr hk gT aL
  cases hm with
  | @cons b r o q _ df hφ zY =>
   simp only[hN,pY]at hb
   split at hb
   ·rename_i b' GL e1 e2
    cases e1
    cases hb
    have FD:=vu b (by simp)
    obtain⟨k1,k2⟩:=sr.du b _ FD r o q hφ
    obtain⟨le,dh,gL⟩:=sr.kz (y':=.dead) (x':=.deferred none) FD hφ k1 k2 rfl rfl (fun _ _ _=>trivial)
    refine⟨by simp,.inl ⟨r,_,rfl,run_takeDeferred k2,?_⟩⟩
    simp only[List.nodup_cons]at jB
    refine ih df GL g (H.set b .dead) _ R a Rr zY e2 jB.2 (fun c hc=>?_) dh ⟨hr.1,fun t ht=>(hr.2 t ht).mono le⟩ (fun w' v vt wv GM wx=>hk w' v (le.trans vt) wv GM (gL.trans wx)) gT aL
    exact bE (vu c (by simp[hc])) (by rintro rfl;exact jB.1 hc)
   ·cases hb
section
variable {P:Program} {w0 w ws:World} {g g0:Ctx} {H H0 H':aa} {R:ai} {a:Act} {n:Nat} {ops:Array Oper} {r:Option Nat} {mu:Bool} {i:Nat} {o:Oper} {st iY:List Rd}
theorem lZ {d:Option Nat}{nn bytes t b len:Nat}{yy:X}{cs:List T}{gd:Gd}{v:T}(ho:ops[i]?=some o)(hc:bW P n ops mu o st=some ⟨d,.b (.app nn bytes false (.r t) yy),gd,iY⟩)(hn:a.tmps.size=n)(hr:cy g w R a (tmpsOf o (.b (.app nn bytes false (.r t) yy)) gd))(hw:au R gd=true)
  (h:SR w0 g H w) (ht:R t=.aQ b 0 len nn) (hb:H[b]?=some (.cells cs)) (hlen:len*nn=cs.length) (h0:0<len)
  (he:ae (jc R t (.sl (.own H.length len) (dP cs 0 len nn))) (H.set b (.fz cs)++[.tok len]) (.app nn bytes false (.r t) yy)=some (v,H')) :
  ∃u w' g',(∀(K:Act→World→Prop) (Q:Exit→Act→World→Prop),K (a.put d u) w'→wpOpIn (Fw r) 0 P ops Q i K a w)∧Le g w g' w'∧SR w0 g' H' w'∧VR g' w' v u∧Fr g H g' H':=by
 have hm:=hr t (by simp[tmpsOf,lH,nW,bn])
 rw[ht]at hm
 obtain⟨g4,lY,n5,pC,qT⟩:=h.u2 hb hm hlen h0
 have e6:cy g4 w (jc R t (.sl (.own H.length len) (dP cs 0 len nn))) a (tmpsOf o (.b (.app nn bytes false (.r t) yy)) gd):=fun u hu=>by
  by_cases e:u=t
  ·subst e
   simp only[jc,if_pos rfl]
   exact qT _ hm
  ·simp only[jc,if_neg e]
   exact(hr u hu).mono lY
 have mY:au (jc R t (.sl (.own H.length len) (dP cs 0 len nn))) gd=true:=by
  cases gd with
  | none=>rfl
  | some p =>
   obtain⟨u,c⟩:=p
   by_cases e:u=t
   ·subst e
    simp[au,ht]at hw
   ·simpa only[au,jc,if_neg e]using hw
 obtain⟨u,w',g',k1,le,sr,hv,fr⟩:=kF (r:=r) ho hc hn e6 mY n5 he
 exact⟨u,w',g',k1,lY.trans le,sr,hv,pC.trans fr⟩
end
def l0 (tmps:Array Value):ResultVar→Sem Value
 | .tmp t=>pure (tmps.getD t undef)
 | .cell a t=>do loadVar t (←asAddr (tmps.getD a undef))
theorem eG {P:Program}{w0:World}{g:Ctx}{w:World}{H:aa}{R:ai}{a:Act}{n:Nat}(sr:SR w0 g H w):∀(l:List ResultVar) (res:List Rs) (ts:List T),fS P l=some res→je R H res=some ts→(∀t∈res,ph n t=true)→dg g w n R a →
  ∃vs:List Value,(l.mapM (l0 a.tmps)).run P w=.ok vs w∧ax g w ts vs
 | [],res,ts,h,ht,_,_=>by simp[fS]at h;subst h;simp[je]at ht;subst ht;exact⟨[],by simp,ax.nil⟩
 | .tmp t :: l,res,ts,h,ht,hn,hr=>by
  simp only[fS,Option.map_eq_some_iff]at h
  obtain⟨yj,h1,rfl⟩:=h
  simp only[je,mN]at ht
  split at ht
  ·rename_i v vs hv fZ
   cases ht;cases hv
   obtain⟨us,h2,h3⟩:=eG (P:=P) sr l yj vs h1 fZ (fun t ht=>hn t (by simp[ht])) hr
   exact⟨a.tmps.getD t undef :: us,by rw[List.mapM_cons];simp only[Sem.run_bind,l0,Sem.run_pure,Result.andThen_ok,h2],ax.cons (hr.2 t (by simpa[ph]using hn (.t t) (by simp))) h3⟩
  ·cases ht
 | .cell c t :: l,res,ts,h,ht,hn,hr=>by
  simp only[fS]at h
  split at h
  ·rename_i d i hu hi
   simp only[Option.map_eq_some_iff]at h
   obtain⟨yj,h1,rfl⟩:=h
   simp only[je]at ht
   split at ht
   ·rename_i v vs hv fZ
    cases ht
    obtain⟨us,h2,h3⟩:=eG (P:=P) sr l yj vs h1 fZ (fun t ht=>hn t (by simp[ht])) hr
    simp only[mN]at hv
    split at hv
    ·rename_i cs kS
     have hc:=hr.2 c (by simpa[ph]using hn (.cl c (if bC d=true then i.size else 1) (bC d)) (by simp))
     obtain⟨u,w',g',aL,hw,bR,hg⟩:=tR (P:=P) hu hi rfl (fun e=>by rw[if_pos e]) sr hc kS hv
     subst hw;subst hg
     obtain⟨r,o,IK,hp,_⟩:=fj sr hc kS
     have zZ:(l0 a.tmps (.cell c t)).run P w'=.ok u w':=by
      rw[←aL,hp]
      have e:l0 a.tmps (.cell c t)=(asAddr (a.tmps.getD c undef) >>= fun x=>loadVar t x):=rfl
      rw[e,hp]
      simp only[asAddr,Instr.loadAt,Instr.sureAddr,Sem.run_bind,Sem.run_pure,Result.andThen_ok]
     exact⟨u :: us,by rw[List.mapM_cons];simp only[Sem.run_bind,zZ,Result.andThen_ok,h2,Sem.run_pure],ax.cons bR h3⟩
    ·cases hv
   ·cases ht
  ·cases h
theorem iJ {P:Program}{fn:Func}{w0:World}{g:Ctx}{w:World}{H:aa}{R:ai}{a:Act}{n:Nat}{res:List Rs}{t:T}(sr:SR w0 g H w)(h:fS P fn.results.toList=some res)(hn:∀t∈res,ph n t=true)(hr:dg g w n R a)(ht:fG R H res=some t):∃v,(results fn a.tmps).run P w=.ok v w∧VR g w t v:=by
 simp only[fG,Option.map_eq_some_iff]at ht
 obtain⟨ts,ht,rfl⟩:=ht
 obtain⟨vs,h1,h2⟩:=eG (P:=P) sr fn.results.toList res ts h ht hn hr
 have hl:ts.length=vs.length:=h2.1
 have e:results fn a.tmps=(fn.results.mapM (l0 a.tmps) >>= fun vs=>pure (if h:vs.size=1 then vs[0]else .tuple vs)):=rfl
 refine⟨if h:vs.toArray.size=1 then vs.toArray[0]else .tuple vs.toArray,?_,?_⟩
 ·rw[e,Array.mapM_eq_mapM_toList]
  simp only[Sem.run_bind,Sem.run_map,map_eq_pure_bind,h1,Result.andThen_ok,Sem.run_pure]
 ·match ts,vs,hl,h2 with
  | [],[],_,_=>exact .bg rfl (by simp)
  | [t],[v],_,h2=>simpa[oQ]using h2.head
  | t :: t' :: ts,v :: v' :: vs,_,h2 =>
   have:¬(v :: v' :: vs).toArray.size=1:=by simp
   rw[dif_neg this]
   simpa[oQ]using h2.bg
theorem bX {P:Program}{n:Nat}{ops:Array Oper}{mu:Bool}{o:Oper}{st:List Rd}{y:O}(h:bW P n ops mu o st=some y):y.d≠some n:=by
 obtain⟨_,_,_,_,e,_,h5⟩:=aq h
 subst e
 exact fun e=>Nat.lt_irrefl n (h5 n e)
theorem mK {P:Program}{n:Nat}{ops:Array Oper}{mu:Nat→Bool}{w0 w ws w':World}{df:List Deferred}{mk:T}{g g0 g':Ctx}{H H0 H':aa}{pre Dv:List It}{L L':Array Bool}{R R':ai}{a a':Act}
  (h:Dr P n ops mu w0 df mk g0 ws H0 pre L g R H a w) (h':Dr P n ops mu w0 df mk g0 ws H0 Dv L' g' R' H' a' w') (ck:b6 P g):b6 P g':=fun n c k=>by rw[h'.le.ck,←h.le.ck];exact ck n c k
theorem iK {P:Program}{an:An}{f:FuncId}{fn:Fn}(jP:af P an f=some fn):∃F code res body,P.funcs[f]?=some F∧F.body=some code∧fS P F.results.toList=some res∧aw P F.ntmps an true code=some body ∧
  bq P f=true∧F.params.size+F.nfree≤F.ntmps∧(∀t∈res,ph F.ntmps t=true)∧fn=⟨F.ntmps,F.params.size+F.nfree,res,body⟩:=by
 unfold af at jP
 cases hF:P.funcs[f]? with
 | none=>simp[hF]at jP
 | some F =>
  simp only[hF]at jP
  split at jP
  ·rename_i code res hb gT
   split at jP
   ·rename_i c kv
    split at jP
    ·rename_i hk
     simp only[Bool.and_eq_true,decide_eq_true_eq,List.all_eq_true]at hk
     obtain⟨⟨dw,cX⟩,aD⟩:=hk
     cases jP
     exact⟨F,code,res,c,rfl,hb,gT,kv,dw,cX,aD,rfl⟩
    ·cases jP
   ·cases jP
  ·cases jP
theorem iL {F:Func}{g:Ctx}{w:World}{as:List T}{args:List Value}(hv:ax g w as args){k:Nat}(hn:as.length=k)(cX:k≤F.ntmps) :
  dg g w F.ntmps (dm as) { tmps:=args.toArray++Array.replicate (F.ntmps-args.toArray.size) undef,defers:=[] }:=by
 have Cs:args.length=as.length:=hv.1.symm
 refine⟨by simp[Cs,hn];omega,fun t ht=>?_⟩
 by_cases Ct:t<as.length
 ·simp only[dm]
  rw[List.getD_eq_getElem?_getD,List.getElem?_eq_getElem Ct,Option.getD_some]
  rw[Array.getD_eq_getD_getElem?,Array.getElem?_append_left (by simpa[Cs]using Ct)]
  simp only[List.getElem?_toArray,List.getElem?_eq_getElem (Cs▸Ct:t<args.length),Option.getD_some]
  exact hv.2 t _ _ (List.getElem?_eq_getElem Ct) (List.getElem?_eq_getElem _)
 ·simp only[dm]
  rw[List.getD_eq_getElem?_getD,List.getElem?_eq_none (by omega),Option.getD_none]
  rw[Array.getD_eq_getD_getElem?,Array.getElem?_append_right (by simp[Cs];omega),Array.getElem?_replicate]
  split<;>exact da
theorem eF.z0 {w0 w:World}{n:Nat}{hr e6:Bool}{df:List Deferred}{mk:T}{g:Ctx}{H:aa}{Q:Out→aa→Prop}(hh:hr=false→e6=false){e:Exit}{a:Act}{u:World}(h:eF w0 n e6 df mk g w H Q e a u):eF w0 n hr df mk g w H Q e a u :=
 h.trans (.refl _ _) (.refl _ _) id fun e=>⟨hh e,rfl,rfl⟩
theorem W.GN {P:Program}{E:Env}(hE:lR P E){j:J}{H:aa}{Q:Out→aa→Prop}(h:W E j H Q):Dm P j H Q:=by
 induction h with
 | @skip R H Q h =>
  intro w0 g w a n an top code r hc ht ck sr hr
  obtain rfl:=qO hc
  exact⟨wpIn_skip ⟨.normal,R,g,H,rfl,h,.refl _ _,sr,hr,.refl _ _,id,fun _=>⟨rfl,rfl⟩⟩,by rintro _⟨⟩⟩
 | @exit id R H Q h =>
  intro w0 g w a n an top code r hc ht ck sr hr
  obtain rfl:=qP hc
  exact⟨wpIn_exit ⟨.exit id,R,g,H,rfl,h,.refl _ _,sr,hr,.refl _ _,fun m=>m,fun _=>⟨rfl,rfl⟩⟩,by rintro _⟨⟩⟩
 | @ret R H Q h =>
  intro w0 g w a n an top code r hc ht ck sr hr
  obtain rfl:=ve hc
  exact⟨wpIn_ret ⟨.ret,R,g,H,rfl,h,.refl _ _,sr,hr,.refl _ _,id,fun _=>⟨rfl,rfl⟩⟩,by rintro _⟨⟩⟩
 | @zm l R H Q _ ih =>
  intro w0 g w a n an top code r hc ht ck sr hr
  obtain⟨id,ops,mu,⟨rfl,h1⟩|⟨rfl,ord,dL,h1,h2⟩⟩:=vj hc
  ·exact⟨wpIn_mono (wpIn_region (ih.1 w0 g w H g w a n ops mu _ r h1 ck sr hr (.refl _ _) (.refl _ _))) fun e a w hp=>hp.Fz,by rintro _⟨⟩⟩
  ·refine⟨wpIn_mono (wpIn_region_any (Q:=nr w0 n a.defers (R n) g w H Q) hE.mixed ?_) fun e a w hp=>hp.Fz,by rintro _⟨⟩⟩
   obtain⟨dh,le⟩:=sr.drew (w':={ w with drawn:=w.drawn+1 }) (Tr.drew w) rfl
   have hd:=Dr.init (ops:=ops) (mu:=mu) (P:=P) (mk:=R n) dh hr.1 rfl (fun t ht=>(hr.2 t ht).mono le) le (.refl g H)
   refine ih.2 w0 n ops mu a.defers (R n) g w H [] _ g a _ ord dL r ops.size ck h1 h2 hd ?_
   exact Nat.le_trans (List.count_le_length) (by simp)
 | @seq x y R H Q M _ h2 h3 n3 ja =>
  intro w0 g w a n an top code r hc ht ck sr hr
  obtain⟨c,d,rfl,k1,k2⟩:=vg hc
  refine⟨wpIn_seq (wpIn_mono (n3 w0 g w a n an top c r k1 ht ck sr hr).1 fun e a' w' hp=>?_),by rintro _⟨⟩⟩
  have hb:(C.seq x y).ej=false→x.ej=false∧y.ej=false:=by simp[C.ej]
  obtain⟨ex,R',g',H',e1,hm,le,dh,e6,fr,kT,n6⟩:=hp
  cases e<;>simp only[jl,Option.some.injEq,reduceCtorEq]at e1<;>subst e1
  case normal =>
   exact wpIn_mono (ja R' H' hm w0 g' w' a' n an top d r k2 ht (ck.mono le) dh e6).1 fun e a2 w2 hp=>hp.trans le fr kT fun e=>⟨(hb e).2,n6 (hb e).1⟩
  case exit id=>exact⟨_,R',g',H',rfl,h3 _ _ hm (by simp),le,dh,e6,fr,kT,fun e=>n6 (hb e).1⟩
  case ret=>exact⟨_,R',g',H',rfl,h3 _ _ hm (by simp),le,dh,e6,fr,kT,fun e=>n6 (hb e).1⟩
 | @cond x c d R H Q t hx _ ih =>
  intro w0 g w a n an top code r hc ht ck sr hr
  obtain⟨o,d',e',rfl,k1,k2,k3,k4⟩:=qQ hc
  refine⟨wpIn_cond (t:=t) ?_ ?_,by rintro _⟨⟩⟩
  ·have hv:VR g w (.bool t) (a.eval o):=by
    cases o with
    | tmp u=>simp only[aj,Option.some.injEq]at k1;subst k1;simp only[X.ev]at hx;rw[←hx];exact hr.2 u (k4 u rfl)
    | const v =>
     simp only[aj,Option.map_eq_some_iff]at k1
     obtain⟨u,h1,rfl⟩:=k1
     simp only[X.ev]at hx;subst hx
     exact eN h1
    | «global» _=>simp[aj]at k1
    | func f=>simp only[aj,Option.some.injEq]at k1;subst k1;simp[X.ev]at hx
   generalize a.eval o=v at hv
   cases hv;rfl
  ·cases t
   ·exact wpIn_mono (ih w0 g w a n an top e' r k3 ht ck sr hr).1 fun e a w hp=>hp.z0 (by simp[C.ej])
   ·exact wpIn_mono (ih w0 g w a n an top d' r k2 ht ck sr hr).1 fun e a w hp=>hp.z0 (by simp[C.ej];intro h _;exact h)
 | @block id x R H Q M _ h2 h3 ih =>
  intro w0 g w a n an top code r hc ht ck sr hr
  obtain⟨c,rfl,k1⟩:=pz hc
  refine⟨wpIn_block (wpIn_mono (ih w0 g w a n an top c r k1 ht ck sr hr).1 fun e a' w' hp=>?_),by rintro _⟨⟩⟩
  obtain⟨ex,R',g',H',e1,hm,le,dh,e6,fr,n6⟩:=hp
  cases e<;>simp only[jl,Option.some.injEq,reduceCtorEq]at e1<;>subst e1
  case normal=>exact⟨_,R',g',H',rfl,h3 _ _ hm (by simp),le,dh,e6,fr,n6⟩
  case exit GB =>
   simp only[Exit.inBlock]
   split
   ·rename_i e;subst e;exact⟨_,R',g',H',rfl,h2 _ _ hm,le,dh,e6,fr,n6⟩
   ·rename_i e;exact⟨_,R',g',H',rfl,h3 _ _ hm (fun R2 e2=>by cases e2;exact e rfl),le,dh,e6,fr,n6⟩
  case ret=>exact⟨_,R',g',H',rfl,h3 _ _ hm (by simp),le,dh,e6,fr,n6⟩
 | @loop x R H Q M _ h2 h3 n3 ja =>
  intro w0 g w a n an top code r hc ht ck sr hr
  obtain⟨c,rfl,k1⟩:=qR hc
  have key:iE (Fw r) 0 P c (eF w0 n x.loop.ej a.defers (R n) g w H Q) a w:=by
   refine lT (wpIn_mono (n3 w0 g w a n an top c r k1 ht ck sr hr).1 fun e a' w' hp=>?_)
   obtain⟨ex,R',g',H',e1,hm,le,dh,e6,fr,kT,n6⟩:=hp
   cases e<;>simp only[jl,Option.some.injEq,reduceCtorEq]at e1<;>subst e1
   case normal =>
    have:=(ja R' H' hm w0 g' w' a' n an top (.loop c) r hc ht (ck.mono le) dh e6).2 c rfl
    intro b k cs h1 h2 h4
    obtain⟨e,a2,w2,hq,fP⟩:=this b k cs h1 h2 h4
    exact⟨e,a2,w2,hq.trans le fr kT fun e=>⟨e,n6 e⟩,fP⟩
   case exit id=>exact⟨_,R',g',H',rfl,h3 _ _ hm (by simp),le,dh,e6,fr,kT,n6⟩
   case ret=>exact⟨_,R',g',H',rfl,h3 _ _ hm (by simp),le,dh,e6,fr,kT,n6⟩
  exact⟨px key,fun body e=>by cases e;exact key⟩
 | @bo m x ps bf body R H Q f cs M hx _ h2 ih =>
  intro w0 g w a n an top code r hc ht ck sr hr
  obtain⟨Dw,qs,c,d,rfl,k1,k2,k3,k4,k5,rfl,k7,rfl⟩:=pA hc
  obtain rfl:=ht k4
  refine⟨wpIn_rangeFunc fun fn _=>?_,by rintro _⟨⟩⟩
  have hv:VR g w (.fn f cs) (a.eval Dw):=by
   cases Dw with
   | tmp u=>simp only[aj,Option.some.injEq]at k1;subst k1;simp only[X.ev]at hx;rw[←hx];exact hr.2 u (k5 u (by simp[bn]))
   | const v =>
    simp only[aj,Option.map_eq_some_iff]at k1
    obtain⟨u,h1,rfl⟩:=k1
    simp only[X.ev]at hx;subst hx
    exact eN h1
   | «global» _=>simp[aj]at k1
   | func f'=>simp only[aj,Option.some.injEq]at k1;subst k1;simp only[X.ev]at hx;cases hx;exact .fn rfl (by simp)
  generalize GO:a.eval Dw=vf at hv
  cases hv with
  | @fn _ _ vs hl kS =>
   obtain⟨g1,dy,xW,Ds,zf⟩:=sr.qE (x:=.deferred (some [])) (y:=.kX) rfl (fun g' w' _ q1 q2 q3 r o q hq=>by rw[q2]at hq;cases hq;exact⟨q1,q3⟩)
   have cX:(w.alloc (.deferred (some []))).heap.size=w.heap.size+1:=by simp
   obtain⟨g2,vt,wv,wx,nQ⟩:=xW.qE (x:=.loop { state:=.ready,pending:=none,fn,tmps:=a.tmps,params:=qs,assign:=c,body:=d,defers:=w.heap.size }) (y:=.loop .ready none m R qs.toList bf body) rfl
    (fun g' w' le q1 q2 q3 r o q hq=>by
     rw[q2]at hq;cases hq
     refine⟨q1,_,q3,rfl,rfl,rfl,hr.1,fun t ht=>((hr.2 t ht).mono dy).mono le,k7,?_,?_⟩
     ·rw[le.ck,dy.ck];exact(ck _ _ _).2 ⟨an,k2⟩
     ·rw[le.ck,dy.ck];exact(ck _ _ _).2 ⟨an,k3⟩)
   rw[cX]at nQ
   have hlen:(H++[B.kX]).length=H.length+1:=by simp
   rw[hlen]at nQ
   have Dx:H++[B.kX]++[B.loop .ready none m R qs.toList bf body]=H++[.kX,.loop .ready none m R qs.toList bf body]:=by simp
   rw[Dx]at wv wx
   have yk:=dy.trans vt
   have n7:ax g2 ((w.alloc (.deferred (some []))).alloc (.loop { state:=.ready,pending:=none,fn,tmps:=a.tmps,params:=qs,assign:=c,body:=d,defers:=w.heap.size })) (.gY (H.length+1) :: cs) (.func (.yield (w.heap.size+1)) #[] #[] :: vs.toList) :=
    ax.cons (.gY nQ) ⟨by simp[hl],fun i t v ha hb=>(kS i t v ha (by simpa using hb)).mono yk⟩
   obtain⟨dw,qU⟩:=ih w0 g2 _ _ (ck.mono yk) wv n7
   refine⟨w.heap.size+1,[{ target:=.collected w.heap.size,args:=#[] }],((w.alloc (.deferred (some []))).alloc (.loop { state:=.ready,pending:=none,fn,tmps:=a.tmps,params:=qs,assign:=c,body:=d,defers:=w.heap.size })),{ target:=.fn (.func f) vs,args:=#[.func (.yield (w.heap.size+1)) #[] #[]] },((w.alloc (.deferred (some []))).alloc (.loop { state:=.ready,pending:=none,fn,tmps:=a.tmps,params:=qs,assign:=c,body:=d,defers:=w.heap.size })),f,#[.func (.yield (w.heap.size+1)) #[] #[]]++vs,((w.alloc (.deferred (some []))).alloc (.loop { state:=.ready,pending:=none,fn,tmps:=a.tmps,params:=qs,assign:=c,body:=d,defers:=w.heap.size })),run_enterLoop_outer _ _ _ _ _,?_,fun _ _=>trivial,?_,fun h=>by simp[Fw]at h,?_⟩
   ·simp only[resolve,GO,Deferred.ofValue]
    simp[Act.eval]
   ·exact dY dw
   ·have e3:(.func (.yield (w.heap.size+1)) #[] #[] :: vs.toList:List Value).toArray=#[.func (.yield (w.heap.size+1)) #[] #[]]++vs:=by simp
    rw[e3]at qU
    refine qU.mono fun e w3 ⟨v,t,g3,H3,he,hM,mJ,nu,_,pB⟩=>?_
    subst he
    obtain⟨st,bz,g8,GP,FE,hQ⟩:=h2 _ _ hM
    have FF:=mJ.φ _ _ nQ
    obtain⟨j1,rec,j2,j3,j4,j5,j6,j7,j8,j9,FC⟩:=nu.du _ _ FE _ _ _ FF
    obtain⟨lY,n5,pC⟩:=nu.kz (y':=.dead) (x':=.loop { rec with state:=.exhausted }) FE FF j1 j2 rfl rfl (fun _ _ _=>trivial)
    refine⟨_,_,run_endLoop j2 (by rw[j3];cases st<;>simp[pT.real]at g8 ⊢),?_⟩
    generalize w3.putObj (w.heap.size+1) (.loop { rec with state:=.exhausted })=W4 at lY n5 ⊢
    rw[j4]
    have Dy:=(yk.trans mJ).trans lY
    have GQ:Fr g H g3 (H3.set (H.length+1) .dead):=by
     have:=(Ds.trans wx).trans (pB.trans pC)
     exact this
    have post:∀e,jl e=some (kg bz)→eF w0 m (C.bo m x qs.toList bf body).ej a.defers (R m) g w H Q e { a with defers:=[{ target:=.collected w.heap.size,args:=#[] }]++a.defers } W4:=by
     intro e he
     refine⟨_,_,g3,_,he,hQ,Dy,n5,⟨hr.1,fun t ht=>?_⟩,GQ,fun hm=>?_,fun h=>by simp[C.ej]at h⟩
     ·simp only[jc];rw[if_neg (Nat.ne_of_lt ht)];exact(hr.2 t ht).mono Dy
     ·obtain⟨ts,e1,e2⟩:=hm
      refine⟨.ptr H.length 0 :: ts,by simp[jc,e1,fF],.cons (((vt.trans mJ).trans lY).φ _ _ zf) (e2.mono Dy)⟩
    cases hp:bz with
    | none=>simp only[lg];exact post .normal (by rw[hp];rfl)
    | some e =>
     rcases qS (e:=e) (by rintro rfl;exact GP hp)with⟨id,rfl,e5⟩|⟨rfl,e5⟩
     ·simp only[e5];exact wpIn_exit (post (.exit id) (by rw[hp];rfl))
     ·simp only[e5];exact wpIn_ret (post .ret (by rw[hp];rfl))
 | @nil R H Q h =>
  refine⟨fun w0 g0 ws H0 g w a n ops mu is r hc ck sr hr le fr=>?_,fun w0 n ops mu df mk g0 ws H0 pre L g a w ord dL r fuel ck h1 h2 hd hl=>?_⟩
  ·obtain rfl:=lV hc
   exact⟨.normal,R,g,H,rfl,h,le,sr,hr,fr,rfl,rfl⟩
  ·have et:=aX ord pre dL h1
   cases dL with
   | cons _ _=>simp at h2
   | nil=>exact py (by simpa using et) h fuel L g a w hl hd
 | @no o l R H Q hg _ ih =>
  refine⟨fun w0 g0 ws H0 g w a n ops mu is r hc ck sr hr le fr=>?_,fun w0 n ops mu df mk g0 ws H0 pre L g a w ord dL r fuel ck h1 h2 hd hl=>?_⟩
  ·obtain⟨i,iZ,oper,rfl,ho,bL,bQ⟩:=bd hc
   rw[wpOpsIn_cons]
   refine nZ ho bL hr.1 (hr.rg (fU bL)) hg ?_
   have:=ih.1 w0 g0 ws H0 g w (a.put o.d undef) n ops mu iZ r bQ ck sr (hr.put (by obtain⟨_,_,_,_,e,_,h5⟩:=aq bL;rw[e];exact h5) (.refl _ _) da) le fr
   rwa[db,aP (bX bL)]at this
  ·obtain⟨x,l',bS,oper,rfl,rfl,h3,hh,h4⟩:=cz h1 h2
   cases he:x.early with
   | true=>exact ih.2 w0 n ops mu df mk g0 ws H0 _ L g a w bS l' r fuel ck h4 h3 (hd.vn hh he hg) hl
   | false =>
    refine bF (Tl:=fun R' H'=>R'=ay R x.o.d av∧H'=H) hh he (aX ord pre _ h1) (bc bS _ l' h4) ?_ ?_ fuel L g a w hl hd
    ·rintro R' H'⟨rfl,rfl⟩ fuel L' g' a' w' hL eW
     exact ih.2 w0 n ops mu df mk g0 ws H0 _ L' g' a' w' bS l' r fuel (mK hd eW ck) h4 h3 eW hL
    ·intro L g a w hd hp K hK
     exact nZ hh.ho hh.co hd.kD (hd.bG hh hp) hg (hK _ _ g _ w ⟨rfl,rfl⟩ (hd.both hh he hp (.refl _ _) hd.sr da (.refl _ _) fun _ _ _ _ _ _ _ _ _ e=>e))
 | @op d b gd s l R H Q v H' hg hv hs _ ih =>
  refine⟨fun w0 g0 ws H0 g w a n ops mu is r hc ck sr hr le fr=>?_,fun w0 n ops mu df mk g0 ws H0 pre L g a w ord dL r fuel ck h1 h2 hd hl=>?_⟩
  ·obtain⟨i,iZ,oper,rfl,ho,bL,bQ⟩:=bd hc
   rw[wpOpsIn_cons]
   obtain⟨u,w',g',bI,eo,dh,bR,gL⟩:=kF (r:=r) ho bL hr.1 (hr.rg (fU bL)) hg sr hv
   refine bI _ _ ?_
   have:=ih.1 w0 g0 ws H0 g' w' (a.put d u) n ops mu iZ r bQ (ck.mono eo) dh (hr.put (by obtain⟨_,_,_,_,e,_,h5⟩:=aq bL;cases e;exact h5) eo bR) (le.trans eo) (fr.trans gL)
   rwa[db,aP (bX bL)]at this
  ·obtain⟨x,l',bS,oper,rfl,eU,h3,hh,h4⟩:=cz h1 h2
   have n8:x.o.d=d:=by rw[eU]
   cases he:x.early with
   | true =>
    have:=hd.vo hh he (b:=b) (by rw[eU]) (by rw[eU];exact hg) hv
    rw[n8]at this
    exact ih.2 w0 n ops mu df mk g0 ws H0 _ L g a w bS l' r fuel ck h4 h3 this hl
   | false =>
    refine bF (Tl:=fun R' H2=>R'=ay R d v∧H2=H') hh he (aX ord pre _ h1) (bc bS _ l' h4) ?_ ?_ fuel L g a w hl hd
    ·rintro R' H'⟨rfl,rfl⟩ fuel L' g' a' w' hL eW
     exact ih.2 w0 n ops mu df mk g0 ws H0 _ L' g' a' w' bS l' r fuel (mK hd eW ck) h4 h3 eW hL
    ·intro L2 g2 a2 w2 cC hp K hK
     have vz:b6 P g2:=mK hd cC ck
     have bL:=hh.co
     have iI:=cC.bG hh hp
     have g8:=cC.stays hh he hp (H':=H') (by rw[eU];exact hs)
     rw[eU]at bL iI
     obtain⟨u,w',g',bI,eo,dh,bR,gL⟩:=kF (r:=r) hh.ho bL cC.kD iI hg cC.sr hv
     refine bI _ _ (hK _ _ g' _ w' ⟨rfl,rfl⟩ ?_)
     have:=cC.both hh he hp eo dh bR gL g8
     rwa[n8]at this
 | @Cb d nn bytes yy gd s l R H Q b len cs v H' t hg ht hb hlen h0 hv hs _ ih =>
  refine⟨fun w0 g0 ws H0 g w a n ops mu is r hc ck sr hr le fr=>?_,fun w0 n ops mu df mk g0 ws H0 pre L g a w ord dL r fuel ck h1 h2 hd hl=>?_⟩
  ·obtain⟨i,iZ,oper,rfl,ho,bL,bQ⟩:=bd hc
   rw[wpOpsIn_cons]
   obtain⟨u,w',g',bI,eo,dh,bR,gL⟩:=lZ (r:=r) ho bL hr.1 (hr.rg (fU bL)) hg sr ht hb hlen h0 hv
   refine bI _ _ ?_
   have:=ih.1 w0 g0 ws H0 g' w' (a.put d u) n ops mu iZ r bQ (ck.mono eo) dh (hr.put (by obtain⟨_,_,_,_,e,_,h5⟩:=aq bL;cases e;exact h5) eo bR) (le.trans eo) (fr.trans gL)
   rwa[db,aP (bX bL)]at this
  ·obtain⟨x,l',bS,oper,rfl,eU,h3,hh,h4⟩:=cz h1 h2
   have n8:x.o.d=d:=by rw[eU]
   cases he:x.early with
   | true =>
    have:=(hh.kl he).1
    rw[eU]at this
    exact absurd (by cases d<;>rfl) this
   | false =>
    refine bF (Tl:=fun R' H2=>R'=ay R d v∧H2=H') hh he (aX ord pre _ h1) (bc bS _ l' h4) ?_ ?_ fuel L g a w hl hd
    ·rintro R' H'⟨rfl,rfl⟩ fuel L' g' a' w' hL eW
     exact ih.2 w0 n ops mu df mk g0 ws H0 _ L' g' a' w' bS l' r fuel (mK hd eW ck) h4 h3 eW hL
    ·intro L2 g2 a2 w2 cC hp K hK
     have vz:b6 P g2:=mK hd cC ck
     have bL:=hh.co
     have iI:=cC.bG hh hp
     have g8:=cC.stays hh he hp (H':=H') (by rw[eU];exact hs)
     rw[eU]at bL iI
     obtain⟨u,w',g',bI,eo,dh,bR,gL⟩:=lZ (r:=r) hh.ho bL cC.kD iI hg cC.sr ht hb hlen h0 hv
     refine bI _ _ (hK _ _ g' _ w' ⟨rfl,rfl⟩ ?_)
     have:=cC.both hh he hp eo dh bR gL g8
     rwa[n8]at this
 | @call d f as gd s l R H Q M hg _ hs h2 n3 ja =>
  refine⟨fun w0 g0 ws H0 g w a n ops mu is r hc ck sr hr le fr=>?_,fun w0 n ops mu df mk g0 ws H0 pre L g a w ord dL r fuel ck h1 h2 hd hl=>?_⟩
  ·obtain⟨i,iZ,oper,rfl,ho,bL,bQ⟩:=bd hc
   rw[wpOpsIn_cons]
   refine jM (r:=r) ho bL hr.1 (hr.rg (fU bL)) hg (fun args hv=>n3 w0 g w args ck sr hv) fun u w' g' H' t hM eo dh bR gL=>?_
   have:=(ja t H' hM).1 w0 g0 ws H0 g' w' (a.put d u) n ops mu iZ r bQ (ck.mono eo) dh (hr.put (by obtain⟨_,_,_,_,e,_,h5⟩:=aq bL;cases e;exact h5) eo bR) (le.trans eo) (fr.trans gL)
   rwa[db,aP (bX bL)]at this
  ·obtain⟨x,l',bS,oper,rfl,eU,h3,hh,h4⟩:=cz h1 h2
   have n8:x.o.d=d:=by rw[eU]
   cases he:x.early with
   | true=>exact absurd (by rw[eU];rfl) (hh.kl he).1
   | false =>
    refine bF (Tl:=fun R' H2=>∃v,M (.val v) H2∧R'=ay R d v) hh he (aX ord pre _ h1) (bc bS _ l' h4) ?_ ?_ fuel L g a w hl hd
    ·rintro R' H'⟨v,hM,rfl⟩ fuel L' g' a' w' hL eW
     exact(ja v H' hM).2 w0 n ops mu df mk g0 ws H0 _ L' g' a' w' bS l' r fuel (mK hd eW ck) h4 h3 eW hL
    ·intro L2 g2 a2 w2 cC hp K hK
     have vz:b6 P g2:=mK hd cC ck
     have bL:=hh.co
     have iI:=cC.bG hh hp
     rw[eU]at bL iI
     refine jM (r:=r) hh.ho bL cC.kD iI hg (fun args hv=>n3 w0 g2 w2 args vz cC.sr hv) fun u w' g' H' t hM eo dh bR gL=>hK _ H' g' _ w' ⟨t,hM,rfl⟩ ?_
     have g8:=cC.stays hh he hp (H':=H') (by rw[eU];exact hs t H' hM)
     have:=cC.both hh he hp eo dh bR gL g8
     rwa[n8]at this
 | @a6 d xx f cs as gd s l R H Q M hg hf _ hs h2 n3 ja =>
  refine⟨fun w0 g0 ws H0 g w a n ops mu is r hc ck sr hr le fr=>?_,fun w0 n ops mu df mk g0 ws H0 pre L g a w ord dL r fuel ck h1 h2 hd hl=>?_⟩
  ·obtain⟨i,iZ,oper,rfl,ho,bL,bQ⟩:=bd hc
   rw[wpOpsIn_cons]
   refine iG (r:=r) ho bL hr.1 (hr.rg (fU bL)) hg hf (fun args hv=>n3 w0 g w args ck sr hv) fun u w' g' H' t hM eo dh bR gL=>?_
   have:=(ja t H' hM).1 w0 g0 ws H0 g' w' (a.put d u) n ops mu iZ r bQ (ck.mono eo) dh (hr.put (by obtain⟨_,_,_,_,e,_,h5⟩:=aq bL;cases e;exact h5) eo bR) (le.trans eo) (fr.trans gL)
   rwa[db,aP (bX bL)]at this
  ·obtain⟨x,l',bS,oper,rfl,eU,h3,hh,h4⟩:=cz h1 h2
   have n8:x.o.d=d:=by rw[eU]
   cases he:x.early with
   | true=>exact absurd (by rw[eU];rfl) (hh.kl he).1
   | false =>
    refine bF (Tl:=fun R' H2=>∃v,M (.val v) H2∧R'=ay R d v) hh he (aX ord pre _ h1) (bc bS _ l' h4) ?_ ?_ fuel L g a w hl hd
    ·rintro R' H'⟨v,hM,rfl⟩ fuel L' g' a' w' hL eW
     exact(ja v H' hM).2 w0 n ops mu df mk g0 ws H0 _ L' g' a' w' bS l' r fuel (mK hd eW ck) h4 h3 eW hL
    ·intro L2 g2 a2 w2 cC hp K hK
     have vz:b6 P g2:=mK hd cC ck
     have bL:=hh.co
     have iI:=cC.bG hh hp
     rw[eU]at bL iI
     refine iG (r:=r) hh.ho bL cC.kD iI hg hf (fun args hv=>n3 w0 g2 w2 args vz cC.sr hv) fun u w' g' H' t hM eo dh bR gL=>hK _ H' g' _ w' ⟨t,hM,rfl⟩ ?_
     have g8:=cC.stays hh he hp (H':=H') (by rw[eU];exact hs t H' hM)
     have:=cC.both hh he hp eo dh bR gL g8
     rwa[n8]at this
 | @gY d xx b as gd s l R H Q m R0 ps bf body M1 M hg hf hb hn _ p0 _ mP B8 _ B9 _ n3 ja Cu Cv =>
  refine⟨fun w0 g0 ws H0 g w a n ops mu is r hc ck sr hr le fr=>?_,fun w0 n ops mu df mk g0 ws H0 pre L g a w ord dL r fuel ck h1 h2 hd hl=>?_⟩
  ·obtain⟨i,iZ,oper,rfl,ho,bL,bQ⟩:=bd hc
   rw[wpOpsIn_cons]
   refine lX (r:=r) ho bL hr.1 (hr.rg (fU bL)) hg hf hb hn ck sr n3 p0 ja mP fun u w' g' H' t mX eo dh bR gL=>?_
   have z1:=hr.put (d:=d) (by obtain⟨_,_,_,_,e,_,h5⟩:=aq bL;cases e;exact h5) eo bR
   rcases mX with⟨R',H2,hM,rfl,rfl⟩|⟨e,R',H2,hM,aG,rfl,rfl⟩
   ·have:=(Cu R' H2 hM).1 w0 g0 ws H0 g' w' (a.put d u) n ops mu iZ r bQ (ck.mono eo) dh z1 (le.trans eo) (fr.trans gL)
    rwa[db,aP (bX bL)]at this
   ·have:=(Cv e R' H2 hM aG).1 w0 g0 ws H0 g' w' (a.put d u) n ops mu iZ r bQ (ck.mono eo) dh z1 (le.trans eo) (fr.trans gL)
    rwa[db,aP (bX bL)]at this
  ·obtain⟨x,l',bS,oper,rfl,eU,h3,hh,h4⟩:=cz h1 h2
   have n8:x.o.d=d:=by rw[eU]
   cases he:x.early with
   | true=>exact absurd (by rw[eU];rfl) (hh.kl he).1
   | false =>
    refine bF (Tl:=fun R' H'=>(∃R2 H2,M (.ex .normal R2) H2∧R'=ay R d (.bool true)∧H'=H2.set b (.loop .ready none m R0 ps bf body))∨(∃e R2 H2,M (.ex e R2) H2∧e≠.normal∧R'=ay R d (.bool false)∧H'=H2.set b (.loop .done (some e) m R0 ps bf body)))
     hh he (aX ord pre _ h1) (bc bS _ l' h4) ?_ ?_ fuel L g a w hl hd
    ·rintro R' H' (⟨R2,H2,hM,rfl,rfl⟩|⟨e,R2,H2,hM,aG,rfl,rfl⟩) fuel L' g' a' w' hL eW
     ·exact(Cu R2 H2 hM).2 w0 n ops mu df mk g0 ws H0 _ L' g' a' w' bS l' r fuel (mK hd eW ck) h4 h3 eW hL
     ·exact(Cv e R2 H2 hM aG).2 w0 n ops mu df mk g0 ws H0 _ L' g' a' w' bS l' r fuel (mK hd eW ck) h4 h3 eW hL
    ·intro L2 g2 a2 w2 cC hp K hK
     have vz:b6 P g2:=mK hd cC ck
     have bL:=hh.co
     have iI:=cC.bG hh hp
     rw[eU]at bL iI
     refine lX (r:=r) hh.ho bL cC.kD iI hg hf hb hn vz cC.sr n3 p0 ja mP fun u w' g' H' t mX eo dh bR gL=>?_
     have xA:∀(hs:cF R H' s),Dr P n ops mu w0 df mk g0 ws H0 (pre++[x]) (L2.setIfInBounds x.i true) g' (ay R d t) H' (a2.put d u) w':=fun hs=>by
      have g8:=cC.stays hh he hp (H':=H') (by rw[eU];exact hs)
      have:=cC.both hh he hp eo dh bR gL g8
      rwa[n8]at this
     rcases mX with⟨R',H2,hM,rfl,rfl⟩|⟨e,R',H2,hM,aG,rfl,rfl⟩
     ·exact hK _ _ g' _ w' (.inl ⟨R',H2,hM,rfl,rfl⟩) (xA (B8 R' H2 hM))
     ·exact hK _ _ g' _ w' (.inr ⟨e,R',H2,hM,aG,rfl,rfl⟩) (xA (B9 e R' H2 hM aG))
 | @pZ d neg c xx yy s l R H Q hs _ hx hy hc ih =>
  subst hc
  subst hs
  refine⟨fun w0 g0 ws H0 g w a n ops mu is r hc ck sr hr le fr=>?_,fun w0 n ops mu df mk g0 ws H0 pre L g a w ord dL r fuel ck h1 h2 hd hl=>?_⟩
  ·obtain⟨i,iZ,oper,rfl,ho,bL,bQ⟩:=bd hc
   rw[wpOpsIn_cons]
   obtain⟨b,bI⟩:=jL (r:=r) ho bL hr.1 (hr.rg (fU bL)) rfl hx hy
   refine bI _ _ ?_
   have:=(ih b).1 w0 g0 ws H0 g w (a.put d (.bool b)) n ops mu iZ r bQ ck sr (hr.put (by obtain⟨_,_,_,_,e,_,h5⟩:=aq bL;cases e;exact h5) (.refl _ _) (.bool b)) le fr
   rwa[db,aP (bX bL)]at this
  ·obtain⟨x,l',bS,oper,rfl,eU,h3,hh,h4⟩:=cz h1 h2
   have n8:x.o.d=d:=by rw[eU]
   cases he:x.early with
   | true =>
    have:=(hh.kl he).1
    rw[eU]at this
    exact absurd (by cases d<;>rfl) this
   | false =>
    refine bF (Tl:=fun R' H2=>∃b:Bool,R'=ay R d (.bool b)∧H2=H) hh he (aX ord pre _ h1) (bc bS _ l' h4) ?_ ?_ fuel L g a w hl hd
    ·rintro R' H'⟨b,rfl,rfl⟩ fuel L' g' a' w' hL eW
     exact(ih b).2 w0 n ops mu df mk g0 ws H0 _ L' g' a' w' bS l' r fuel (mK hd eW ck) h4 h3 eW hL
    ·intro L2 g2 a2 w2 cC hp K hK
     have vz:b6 P g2:=mK hd cC ck
     have bL:=hh.co
     have iI:=cC.bG hh hp
     rw[eU]at bL iI
     obtain⟨b,bI⟩:=jL (r:=r) hh.ho bL cC.kD iI rfl hx hy
     refine bI _ _ (hK _ H g2 _ w2 ⟨b,rfl,rfl⟩ ?_)
     have:=cC.both hh he hp (.refl _ _) cC.sr (.bool b) (.refl _ _) fun _ _ _ _ _ _ _ _ _ e=>e
     rwa[n8]at this
 | @gO d xx gd s l R H Q b bi es ix cur hg hx hb hs _ ih =>
  refine⟨fun w0 g0 ws H0 g w a n ops mu is r hc ck sr hr le fr=>?_,fun w0 n ops mu df mk g0 ws H0 pre L g a w ord dL r fuel ck h1 h2 hd hl=>?_⟩
  ·obtain⟨i,iZ,oper,rfl,ho,bL,bQ⟩:=bd hc
   rw[wpOpsIn_cons]
   obtain⟨t,H',u,w',g',hM,bI,eo,dh,bR,gL⟩:=lU (r:=r) ho bL hr.1 (hr.rg (fU bL)) hg sr hx hb
   refine bI _ _ ?_
   have:=(ih t H' hM).1 w0 g0 ws H0 g' w' (a.put d u) n ops mu iZ r bQ (ck.mono eo) dh (hr.put (by obtain⟨_,_,_,_,e,_,h5⟩:=aq bL;cases e;exact h5) eo bR) (le.trans eo) (fr.trans gL)
   rwa[db,aP (bX bL)]at this
  ·obtain⟨x,l',bS,oper,rfl,eU,h3,hh,h4⟩:=cz h1 h2
   have n8:x.o.d=d:=by rw[eU]
   cases he:x.early with
   | true =>
    have:=(hh.kl he).1
    rw[eU]at this
    exact absurd (by cases d<;>rfl) this
   | false =>
    refine bF (Tl:=fun R' H2=>∃v,fH H b bi es ix v H2∧R'=ay R d v) hh he (aX ord pre _ h1) (bc bS _ l' h4) ?_ ?_ fuel L g a w hl hd
    ·rintro R' H'⟨v,hM,rfl⟩ fuel L' g' a' w' hL eW
     exact(ih v H' hM).2 w0 n ops mu df mk g0 ws H0 _ L' g' a' w' bS l' r fuel (mK hd eW ck) h4 h3 eW hL
    ·intro L2 g2 a2 w2 cC hp K hK
     have vz:b6 P g2:=mK hd cC ck
     have bL:=hh.co
     have iI:=cC.bG hh hp
     rw[eU]at bL iI
     obtain⟨t,H',u,w',g',hM,bI,eo,dh,bR,gL⟩:=lU (r:=r) hh.ho bL cC.kD iI hg cC.sr hx hb
     refine bI _ _ (hK _ H' g' _ w' ⟨t,hM,rfl⟩ ?_)
     have g8:=cC.stays hh he hp (H':=H') (by rw[eU];exact hs t H' hM)
     have:=cC.both hh he hp eo dh bR gL g8
     rwa[n8]at this
 | @shr f as H Q M _ h2 ih =>
  intro w0 g w args ck sr hv
  obtain⟨dw,hc⟩:=ih w0 g w args ck sr hv
  refine⟨dw,hc.mono fun e w3 ⟨v,t,g3,H3,he,hM,mJ,nu,bR,pB⟩=>?_⟩
  obtain⟨t',b,cs,k,ht,jf,hb,hq⟩:=h2 _ _ hM
  cases ht
  have hφ:∃x,g3.φ b=some x:=by
   cases bR with
   | aQ h=>simp only[hO]at jf;subst jf;exact⟨_,h⟩
   | bg hl h2 =>
    obtain⟨off,len,n,hm⟩:=jf
    obtain⟨i,hi⟩:=List.mem_iff_getElem?.1 hm
    have aD:=(List.getElem?_eq_some_iff.1 hi).1
    obtain⟨u,hu⟩:∃u,(Array.mk _)[i]?=some u:=⟨_,Array.getElem?_eq_getElem (Nat.lt_of_lt_of_eq aD hl.symm)⟩
    have:=h2 i _ _ hi hu
    cases this with
    | aQ h=>exact⟨_,h⟩
   | _=>exact jf.elim
  obtain⟨n5,pC⟩:=nu.shrink k hb hφ
  exact⟨v,_,g3,_,he,hq,mJ,n5,bR,pB.trans pC⟩
 | @Ca f as H Q fn M hf hn _ h2 ih =>
  intro w0 g w args ck sr hv
  obtain⟨an,jP⟩:=hE.fn f fn hf
  obtain⟨F,code,res,body,hF,hb,gT,kv,dw,cX,aD,rfl⟩:=iK jP
  refine⟨dw,callsIn_of_wp_marks hF hb trivial ?_⟩
  have yl:=iL (F:=F) hv hn cX
  refine wpIn_mono (ih w0 g w _ F.ntmps an true code none kv (fun _=>rfl) ck sr yl).1 fun e a' w' qV=>?_
  obtain⟨ex,R',g',H',e1,hm,le,dh,e6,fr,kT,_⟩:=qV
  obtain⟨R2,bs,hex,zY,jB,vu,v0,ym,hq⟩:=h2 _ _ hm
  have Dz:Mk g (dm as F.ntmps) []:=⟨[],by simp only[dm];rw[List.getD_eq_getElem?_getD,List.getElem?_eq_none (by simp only at hn;omega)];rfl,.nil⟩
  obtain⟨ts,pQ,GR⟩:=kT Dz
  have qW:R2=R'→LeavesInM (Fw none) 0 P F a'.tmps (jK w0 g w H fun v H'=>Q (.val v) H') a'.defers .returning w':=by
   rintro rfl
   simp only at zY hq ym
   rw[pQ]at zY
   refine kG ts a'.defers bs g' H' w' R2 a' _ GR zY jB vu dh e6 (fun w2 v vt wv _ wx _ bR=>⟨v,_,g',_,rfl,hq,le.trans vt,wv,bR,fr.trans wx⟩) ym fun g w H sr hr ht=>iJ (P:=P) sr gT aD hr ht
  cases e<;>simp only[jl,Option.some.injEq,reduceCtorEq]at e1<;>subst e1
  case normal=>rcases hex with hex|hex<;>cases hex;exact qW rfl
  case exit id=>rcases hex with hex|hex<;>cases hex
  case ret=>rcases hex with hex|hex<;>cases hex;exact qW rfl
 | @fn f as H Q fn M hf GS hn _ h2 ih =>
  intro w0 g w args ck sr hv
  obtain⟨an,jP⟩:=hE.fn f fn hf
  obtain⟨F,code,res,body,hF,hb,gT,kv,dw,cX,aD,rfl⟩:=iK jP
  refine⟨dw,callsIn_of_wp hF hb trivial ?_⟩
  have yl:=iL (F:=F) hv hn cX
  refine wpIn_mono (ih w0 g w _ F.ntmps an true code none kv (fun _=>rfl) ck sr yl).1 fun e a' w' qV=>?_
  obtain⟨ex,R',g',H',e1,hm,le,dh,e6,fr,_,n6⟩:=qV
  obtain⟨R2,hex,v0,ym,hq⟩:=h2 _ _ hm
  have qW:∀(R2:ai),R2=R'→fG R2 H' res=some v0→a'.defers=[]∧∃v,(results F a'.tmps).run P w'=.ok v w'∧jK w0 g w H (fun v H'=>Q (.val v) H') (.returned v) w':=by
   rintro R2 rfl ym
   obtain⟨v,aL,bR⟩:=iJ (P:=P) dh gT aD e6 ym
   exact⟨(n6 GS).2,v,aL,v,_,g',H',rfl,hq,le,dh,bR,fr⟩
  cases e<;>simp only[jl,Option.some.injEq,reduceCtorEq]at e1<;>subst e1
  case normal=>rcases hex with hex|hex<;>cases hex;exact qW _ rfl ym
  case exit id=>rcases hex with hex|hex<;>cases hex
  case ret=>rcases hex with hex|hex<;>cases hex;exact qW _ rfl ym
 | @xr f as H Q b off len n i M hi _ h2 ih =>
  intro w0 g w args ck sr hv
  have aD:=(List.getElem?_eq_some_iff.1 hi).1
  have hl:=hv.1
  have wy:=hv.2 i _ _ hi (List.getElem?_eq_getElem (by omega))
  have hex:∃c,len≤c∧VR g w (.bT b off len n c) (args[i]'(by omega)):=by
   generalize args[i]'(by omega)=u at wy
   cases wy with
   | aQ h hc hq=>exact⟨_,hc,.bT h hc hq⟩
  obtain⟨c,hc,nP⟩:=hex
  have pg:ax g w (as.set i (.bT b off len n c)) args:=⟨by simp[hl],fun j t v ha hb=>by
   by_cases e:j=i
   ·subst e
    rw[List.getElem?_set_self aD]at ha
    cases ha
    rw[List.getElem?_eq_getElem (by omega)]at hb
    cases hb
    exact nP
   ·rw[List.getElem?_set_ne (Ne.symm e)]at ha
    exact hv.2 j t v ha hb⟩
  obtain⟨dw,kv⟩:=ih c hc w0 g w args ck sr pg
  refine⟨dw,kv.mono fun e w3 ⟨v,t,g3,H3,he,hM,mJ,nu,bR,pB⟩=>?_⟩
  exact⟨v,_,g3,H3,he,h2 _ _ hM,mJ,nu,bR.yX,pB⟩
 | @pL f as H Q M _ h2 ih =>
  intro w0 g w args ck sr hv
  obtain⟨dw,hc⟩:=ih w0 g w args ck sr hv
  refine⟨dw,hc.mono fun e w3 ⟨v,t,g3,H3,he,hM,mJ,nu,bR,pB⟩=>?_⟩
  obtain⟨t',b,cs,ht,jf,hb,hq⟩:=h2 _ _ hM
  cases ht
  have hφ:∃x,g3.φ b=some x:=by
   cases bR with
   | aQ h=>simp only[hO]at jf;subst jf;exact⟨_,h⟩
   | bg hl h2 =>
    obtain⟨off,len,n,hm⟩:=jf
    obtain⟨i,hi⟩:=List.mem_iff_getElem?.1 hm
    have aD:=(List.getElem?_eq_some_iff.1 hi).1
    obtain⟨u,hu⟩:∃u,(Array.mk _)[i]?=some u:=⟨_,Array.getElem?_eq_getElem (Nat.lt_of_lt_of_eq aD hl.symm)⟩
    have:=h2 i _ _ hi hu
    cases this with
    | aQ h=>exact⟨_,h⟩
   | _=>exact jf.elim
  obtain⟨g4,lY,n5,pC,qT⟩:=nu.freeze hb hφ
  exact⟨v,_,g4,_,he,hq,mJ.trans lY,n5,qT _ _ bR,pB.trans pC⟩
 | @xu f as H Q b off len n cs i hi hb _ ih =>
  intro w0 g w args ck sr hv
  have aD:=(List.getElem?_eq_some_iff.1 hi).1
  have hl:=hv.1
  have wy:=hv.2 i _ _ hi (List.getElem?_eq_getElem (by omega))
  have hφ:∃x,g.φ b=some x:=by
   generalize args[i]'(by omega)=u at wy
   cases wy with
   | aQ h=>exact⟨_,h⟩
  obtain⟨g4,lY,n5,pC,qT⟩:=sr.freeze hb hφ
  have pg:ax g4 w (as.map (mO b cs)) args:=⟨by simp[hl],fun j t v ha cV=>by
   rw[List.getElem?_map]at ha
   obtain⟨t0,h0,rfl⟩:=Option.map_eq_some_iff.1 ha
   exact qT _ _ (hv.2 j t0 v h0 cV)⟩
  obtain⟨dw,hc⟩:=ih w0 g4 w args (ck.mono lY) n5 pg
  exact⟨dw,hc.mono fun e w3 ⟨v,t,g3,H3,he,hM,mJ,nu,bR,pB⟩=>⟨v,t,g3,H3,he,hM,lY.trans mJ,nu,bR,pC.trans pB⟩⟩
 | @CJ f as H Q b cs hk hb _ ih =>
  intro w0 g w args ck sr hv
  have hφ:∃x,g.φ b=some x:=by
   obtain⟨i,b',off,len,n,hi,hk⟩:=hk
   have aD:=(List.getElem?_eq_some_iff.1 hi).1
   have hl:=hv.1
   have wy:=hv.2 i _ _ hi (List.getElem?_eq_getElem (by omega))
   generalize args[i]'(by omega)=u at wy
   cases wy with
   | @aQ _ _ _ _ r o q cap h0 =>
    rcases hk with rfl|⟨Gq,j,xp,xq,n',cV,hc⟩
    ·exact⟨_,h0⟩
    ·have nP:∃v,VR g w (.aQ b xp xq n') v:=by
      rcases cV with cV|cV
      ·obtain⟨_,v,_,pg⟩:=(sr.du _ _ cV r o q h0).2.2 j _ hc
       exact⟨v,pg⟩
      ·obtain⟨_,v,_,pg⟩:=(sr.du _ _ cV r o q h0).2 j _ hc
       exact⟨v,pg⟩
     obtain⟨v,nP⟩:=nP
     cases nP with
     | aQ h=>exact⟨_,h⟩
  obtain⟨g4,lY,n5,pC⟩:=sr.u1 hb hφ
  obtain⟨dw,hc⟩:=ih w0 g4 w args (ck.mono lY) n5 (hv.mono lY)
  exact⟨dw,hc.mono fun e w3 ⟨v,t,g3,H3,he,hM,mJ,nu,bR,pB⟩=>⟨v,t,g3,H3,he,hM,lY.trans mJ,nu,bR,pC.trans pB⟩⟩
 | @vw f as tp H Q hl GU _ ih =>
  intro w0 g w args ck sr hv
  exact ih w0 g w args ck sr ⟨hl.trans hv.1,fun j t v ha cV=>by
   have aD:=(List.getElem?_eq_some_iff.1 ha).1
   exact(GU j _ t (List.getElem?_eq_getElem (by omega)) ha).ok sr v (hv.2 j _ v (List.getElem?_eq_getElem (by omega)) cV)⟩
 | @hJ f as H Q h =>
  intro w0 g w args ck sr hv
  exact hE.hJ f as H _ h w0 g w args sr hv
inductive Sh where
 | int (k:IntKind)|str|bool
 | sl (l:List Sh)
 | ag (l:List Sh)
def pD (P:Program)(f:TypeId→Option (List Sh)):List Field→Nat→Option (List Sh)
 | [],_=>some []
 | x :: xs,off=>match f x.type with
  | some l=>if x.offset=off∧l.length=P.cellsOf x.type then(pD P f xs (off+l.length)).map (l++·)else none
  | none=>none
def n9 (k:Nat)(e:TypeId)(c:Nat):List Field:=(List.range k).map fun i=>{ (default:Field)with type:=e,offset:=i*c }
def jm (P:Program):Nat→TypeId→Option (List Sh)
 | 0,_=>none
 | n+1,t=>match P.underlying t with
  | some .bool=>some [.bool]
  | some (.int k)=>some [.int k]
  | some .string=>some [.str]
  | some (.slice e)=>match jm P n e with
   | some l=>if l.length=P.cellsOf e∧l.length≠0 then some [.sl l]else none
   | none=>none
  | some (.struct fs)=>match pD P (jm P n) fs.toList 0 with
   | some l=>if l.length=P.cellsOf t then some l else none
   | none=>none
  | some (.array k e)=>match pD P (jm P n) (n9 k e (P.cellsOf e)) 0 with
   | some l=>if l.length=P.cellsOf t then some l else none
   | none=>none
  | _=>none
inductive cA (B:Nat):Sh→T→Prop
 | int {k n} (h:(Lit.int k n).wf=true):cA B (.int k) (.int k n)
 | bool (b):cA B .bool (.bool b)
 | str {s:ByteArray} (h:s.size≤maxLen) (hB:s.size≤B):cA B .str (.str s)
 | nil {l}:cA B (.sl l) (.sl .nil [])
 | sl {l es} (hl:es.length≤maxLen) (hB:es.length≤B) (h0:∀c∈es,c.length=l.length) (h:∀c∈es,∀(j:Nat) (s:Sh) (t:T),l[j]?=some s→c[j]?=some t→cA B s t):cA B (.sl l) (.sl .arg es)
 | ag {l cs} (hl:cs.length=l.length) (h:∀(j:Nat) (s:Sh) (t:T),l[j]?=some s→cs[j]?=some t→cA B s t):cA B (.ag l) (.agg cs)
mutual
def T.bk:T→Nat
 | .str s=>s.size+1
 | .sl _ es=>zg es+1
 | _=>1
def jb:List T→Nat
 | []=>0
 | t :: ts=>t.bk+jb ts
def zg:List (List T)→Nat
 | []=>0
 | c :: es=>jb c+zg es
end
theorem vA (a b:List T):jb (a++b)=jb a+jb b:=by
 induction a with
 | nil=>simp[jb]
 | cons t a ih=>simp only[List.cons_append,jb,ih];omega
mutual
def aH {H:Type}:DataW H→Nat
 | .lit (.string bytes)=>bytes.length+1
 | .lit _=>1
 | .nil=>1
 | .ptr d=>aH d+1
 | .slice elems spare=>aC elems+aC spare+1
 | .agg parts=>aC parts+1
 | .iface _ d=>aH d+1
 | .map entries=>bZ entries+1
 | .held _=>1
def aC {H:Type}:List (DataW H)→Nat
 | []=>0
 | d :: r=>aH d+aC r
def bZ {H:Type}:List (Lit×DataW H)→Nat
 | []=>0
 | x :: r=>fw x+bZ r
def fw {H:Type}:Lit×DataW H→Nat
 | (.string bytes,d)=>bytes.length+aH d+1
 | (_,d)=>aH d+1
end
theorem eH {H:Type}(d:DataW H):1≤aH d:=by
 cases d with
 | lit l=>cases l<;>simp[aH]
 | _=>simp[aH]
theorem gz {H:Type}{d:DataW H}{l:List (DataW H)}(h:d∈l):aH d≤aC l:=by
 induction l with
 | nil=>cases h
 | cons x r ih =>
  simp only[aC]
  rcases List.mem_cons.1 h with rfl|h
  ·omega
  ·have:=ih h;omega
theorem qX {H:Type}:∀(es:List (List T)) (ds:List (DataW H)),es.length≤ds.length→(∀(i:Nat) c d,es[i]?=some c→ds[i]?=some d→jb c≤aH d)→zg es≤aC ds
 | [],_,_,_=>by simp[zg]
 | c :: es,[],h,_=>by simp at h
 | c :: es,d :: ds,h,hk=>by
  have h1:=hk 0 c d rfl rfl
  have h2:=qX es ds (by simpa using h) fun i c d a b=>hk (i+1) c d (by simpa using a) (by simpa using b)
  simp only[zg,aC];omega
theorem qY {H:Type}(l:List (DataW H)):l.length≤aC l:=by
 induction l with
 | nil=>simp
 | cons x r ih=>have:=eH x;simp only[aC,List.length_cons];omega
def g0 (P:Program)(W:World):Ctx:=⟨fun _=>none,fun r _=>if r<W.heap.size then .cG else .free,fun _ _=>none,fun n c k=>∃an,aw P n an false k=some c⟩
theorem GV (P:Program)(W:World):SR W (g0 P W) [] W where
 size:=Nat.le_refl _
 ep _ _:=rfl
 oU r o h:=by simp[g0,h]
 fresh r o h:=by simp only[g0];rw[if_neg (by omega)]
 gQ b x h:=by simp[g0]at h
 cq t e x h:=by simp[g0]at h
 du b x h:=by simp at h
 env:=⟨rfl,rfl⟩
theorem GW (P:Program)(W:World):b6 P (g0 P W):=fun _ _ _=>Iff.rfl
theorem oa {α:Type}{Q:Nat→α→Prop}:∀(n:Nat),(∀i,i<n→∃c,Q i c)→∃l:List α,l.length=n∧∀(i:Nat) (c:α),l[i]?=some c→Q i c
 | 0,_=>⟨[],rfl,by simp⟩
 | n+1,h=>by
  obtain⟨l,hl,hq⟩:=oa n fun i hi=>h i (by omega)
  obtain⟨c,hc⟩:=h n (by omega)
  refine⟨l++[c],by simp[hl],fun i d hd=>?_⟩
  by_cases hi:i<n
  ·rw[List.getElem?_append_left (by omega)]at hd;exact hq i d hd
  ·rw[List.getElem?_append_right (by omega)]at hd
   have:i=n:=by
    have:=(List.getElem?_eq_some_iff.1 hd).1;simp at this;omega
   subst this;simp[hl]at hd;subst hd;exact hc
section
variable {H:Type} {enc:TypeId×Value→H} {P:Program} {W:World} {held:Bool} {B:Nat}
theorem l3 {a:Addr}{n:Nat}{cs:List Value}(h:W.cells? 0 a n=some cs):cs.length=n∧∀(j:Nat) (v:Value),cs[j]?=some v→W.cell? (a.add j)=some v:=by
 unfold World.cells? at h
 rw[if_pos (Nat.zero_le _)]at h
 have key:∀(n:Nat) (cs:List Value),(List.range n).mapM (fun i=>W.cell? (a.add i))=some cs→cs.length=n∧∀(j:Nat) (v:Value),cs[j]?=some v→W.cell? (a.add j)=some v:=by
  intro n
  induction n with
  | zero=>intro cs h;simp at h;subst h;simp
  | succ n ih =>
   intro cs h
   rw[List.range_succ,List.mapM_append]at h
   cases h1:(List.range n).mapM (fun i=>W.cell? (a.add i))with
   | none=>simp[h1]at h
   | some l =>
    cases h2:W.cell? (a.add n)with
    | none=>simp[h1,h2]at h
    | some v =>
     simp[h1,h2]at h
     subst h
     obtain⟨k1,k2⟩:=ih l h1
     refine⟨by simp[k1],fun j u hj=>?_⟩
     by_cases Cm:j<n
     ·rw[List.getElem?_append_left (by omega)]at hj;exact k2 j u hj
     ·rw[List.getElem?_append_right (by omega)]at hj
      have:j=n:=by
       have:=(List.getElem?_eq_some_iff.1 hj).1;simp at this;omega
      subst this;simp[k1]at hj;subst hj;exact h2
 exact key n cs h
def Reads (enc:TypeId×Value→H)(P:Program)(W:World)(held:Bool)(B:Nat)(t:TypeId)(l:List Sh):Prop :=
 ∀fuel cs d ps,DataW.trod enc P W 0 (fun _=>true) held fuel t cs=some (d,ps)→aH d≤B→cs.length=l.length∧∃ts:List T,ax (g0 P W) W ts cs∧aS ts∧(∀(j:Nat) (s:Sh) (t:T),l[j]?=some s→ts[j]?=some t→cA B s t)∧jb ts≤aH d
theorem eb {f:TypeId→Option (List Sh)}{n:Nat}{cs:List Value}:∀(fs:List Field) (off:Nat) (l:List Sh) (xs:List (DataW H×List MemPlace)),pD P f fs off=some l→(∀x∈fs,∀l',f x.type=some l'→Reads enc P W held B x.type l') →
  xs.length=fs.length→(∀(i:Nat) (x:Field),fs[i]?=some x→DataW.trod enc P W 0 (fun _=>true) held n x.type ((cs.drop x.offset).take (P.cellsOf x.type))=xs[i]?)→(∀x∈xs,aH x.1≤B)→off+l.length≤cs.length →
  ∃ts:List T,ax (g0 P W) W ts ((cs.drop off).take l.length)∧aS ts∧(∀(j:Nat) (s:Sh) (t:T),l[j]?=some s→ts[j]?=some t→cA B s t)∧jb ts≤aC (xs.map (·.1))
 | [],off,l,xs,h,_,_,_,_,_=>by
  simp only[pD,Option.some.injEq]at h;subst h
  exact⟨[],by simpa using ax.nil,by simp[aS],by simp,by simp[jb]⟩
 | x :: fs,off,l,xs,h,hr,hl,ht,hb,hle=>by
  simp only[pD]at h
  split at h
  ·rename_i l1 h1
   split at h
   ·rename_i hc
    simp only[Option.map_eq_some_iff]at h
    obtain⟨l2,h2,rfl⟩:=h
    cases xs with
    | nil=>simp at hl
    | cons y xs =>
     have t0:=ht 0 x rfl
     simp only[List.getElem?_cons_zero]at t0
     obtain⟨d,ps⟩:=y
     obtain⟨a1,FG,a2,a3,a4,a5⟩:=hr x (by simp) l1 h1 n _ d ps t0 (hb (d,ps) (by simp))
     obtain⟨GX,b2,b3,b4,b5⟩:=eb fs (off+l1.length) l2 xs h2 (fun z hz=>hr z (by simp[hz])) (by simpa using hl) (fun i z hz=>by have:=ht (i+1) z (by simpa using hz);simpa using this) (fun z hz=>hb z (by simp[hz])) (by simp at hle;omega)
     have e1:(cs.drop off).take (l1++l2).length=(cs.drop x.offset).take (P.cellsOf x.type)++(cs.drop (off+l1.length)).take l2.length:=by
      rw[hc.1,←hc.2,List.length_append,List.take_add,List.drop_drop]
     have z2:FG.length=l1.length:=by rw[a2.1,a1]
     refine⟨FG++GX,by rw[e1];exact a2.append b2,fun t ht=>?_,fun j s t hs ht=>?_,by rw[vA];simp only[List.map_cons,aC];omega⟩
     ·rcases List.mem_append.1 ht with h|h
      ·exact a3 t h
      ·exact b3 t h
     ·by_cases hj:j<l1.length
      ·rw[List.getElem?_append_left hj]at hs
       rw[List.getElem?_append_left (by omega)]at ht
       exact a4 j s t hs ht
      ·rw[List.getElem?_append_right (by omega)]at hs
       rw[List.getElem?_append_right (by omega),z2]at ht
       exact b4 _ s t hs ht
   ·cases h
  ·cases h
theorem yn {r o:Nat}{v:Value}(h:W.cell? ⟨r,o,none⟩=some v):mF (g0 P W) W r o v:=⟨by simp[g0,dQ h],h⟩
theorem reads:∀(n:Nat) (t:TypeId) (l:List Sh),jm P n t=some l→Reads enc P W held B t l
 | 0,_,_,h=>by simp[jm]at h
 | n+1,t,l,h=>by
  intro fuel cs d ps hd hb
  simp only[jm]at h
  split at h
  ·rename_i hu;cases h
   obtain⟨b,rfl,hx⟩:=DataW.trod_bool hu hd
   exact⟨rfl,[.bool b],ax.cons (.bool b) ax.nil,by simp[aS,T.one],fun j s t hs ht=>by cases j with
    | zero=>simp at hs ht;subst hs;subst ht;exact .bool b
    | succ j=>simp at hs,by have:=eH d;simp only[jb,T.bk];omega⟩
  ·rename_i k hu;cases h
   obtain⟨m,rfl,hx,hw⟩:=DataW.trod_int hu hd
   exact⟨rfl,[.int k m],ax.cons (.int k m) ax.nil,by simp[aS,T.one],fun j s t hs ht=>by cases j with
    | zero=>simp at hs ht;subst hs;subst ht;exact .int hw
    | succ j=>simp at hs,by have:=eH d;simp only[jb,T.bk];omega⟩
  ·rename_i hu;cases h
   obtain⟨s,rfl,hx,hw⟩:=DataW.trod_string hu hd
   cases hx
   exact⟨rfl,[.str s],ax.cons (.str s) ax.nil,by simp[aS,T.one],fun j s' t hs ht=>by cases j with
    | zero=>simp at hs ht;subst hs;subst ht;exact .str hw (by simp[aH]at hb;have:s.data.size=s.size:=rfl;omega)
    | succ j=>simp at hs,by simp only[jb,T.bk,aH];have:s.data.size=s.size:=rfl;simp⟩
  ·rename_i e hu
   split at h
   ·rename_i le he
    split at h
    ·rename_i hc
     cases h
     have ih:=reads n e le he
     rcases DataW.trod_slice hu hd with⟨rfl,hx⟩|⟨a,len,cap,elems,rest,m,_,rfl,hx,_,h1,h2,h3,h4,h5,_⟩
     ·exact⟨rfl,[.sl .nil []],ax.cons .slnil ax.nil,by simp[aS,T.one],fun j s t hs ht=>by cases j with
       | zero=>simp at hs ht;subst hs;subst ht;exact .nil
       | succ j=>simp at hs,by have:=eH d;simp only[jb,T.bk,zg];omega⟩
     ·cases hx
      have z3:∀x∈elems,aH x.1≤B:=fun x hx=>by
       have:=gz (List.mem_map_of_mem (f:=(·.1)) hx);simp only[aH]at hb;omega
      have IL:len≤B:=by
       have:=qY (elems.map (·.1));simp only[aH]at hb;simp at this;omega
      have zO:∀i,i<len→∃c:List T,c.length=le.length∧∃us,W.cells? 0 (a.add (i*P.cellsOf e)) (P.cellsOf e)=some us∧ax (g0 P W) W c us∧aS c∧(∀(j:Nat) (s:Sh) (t:T),le[j]?=some s→c[j]?=some t→cA B s t)∧∀d,(elems.map (·.1))[i]?=some d→jb c≤aH d:=by
       intro i hi
       have hk:=h4 i hi
       have fY:i<elems.length:=by omega
       rw[List.getElem?_eq_getElem fY]at hk
       obtain⟨us,k1,k2⟩:=Option.bind_eq_some_iff.1 hk
       obtain⟨q1,ts,q2,q3,q4,q5⟩:=ih m us elems[i].1 elems[i].2 k2 (z3 _ (List.getElem_mem fY))
       exact⟨ts,by rw[q2.1,q1],us,k1,q2,q3,q4,fun d hd=>by rw[List.getElem?_map,List.getElem?_eq_getElem fY]at hd;simp only[Option.map_some,Option.some.injEq]at hd;subst hd;exact q5⟩
      obtain⟨es,FH,z4⟩:=oa len zO
      have x0:cA B (.sl le) (.sl .arg es):=.sl (by omega) (by omega) (fun c hc=>by
       obtain⟨i,hi,rfl⟩:=List.getElem_of_mem hc
       exact(z4 i _ (List.getElem?_eq_getElem hi)).1) (fun c hc=>by
       obtain⟨i,hi,rfl⟩:=List.getElem_of_mem hc
       obtain⟨_,_,_,_,_,q,_⟩:=z4 i _ (List.getElem?_eq_getElem hi)
       exact q)
      have bR:VR (g0 P W) W (.sl .arg es) (.slice (some a) len cap):=by
       by_cases fJ:cap=0
       ·have:len=0:=by omega
        subst this;subst fJ
        have:es=[]:=List.eq_nil_of_length_eq_zero FH
        subst this;exact .dn _
       ·have wz:a.spot=none:=by
         have cK:∃us,W.cells? 0 (a.add (0*P.cellsOf e)) (P.cellsOf e)=some us:=by
          by_cases hl:0<len
          ·obtain⟨_,_,us,k,_⟩:=zO 0 hl;exact⟨us,k⟩
          ·have h0:len=0:=by omega
           obtain⟨k1,k2⟩:=h5 rfl
           have:=k2 0 (by omega)
           have hr:0<rest.length:=by omega
           rw[List.getElem?_eq_getElem hr,h0]at this
           obtain⟨us,k3,_⟩:=Option.bind_eq_some_iff.1 this
           exact⟨us,by simpa using k3⟩
         obtain⟨us,GY⟩:=cK
         obtain⟨k1,k2⟩:=l3 GY
         have xU:0<us.length:=by omega
         have mR:=k2 0 us[0] (List.getElem?_eq_getElem xU)
         unfold World.cell? at mR
         split at mR
         ·split at mR
          ·cases mR
          ·rename_i mH;simpa[Addr.add]using mH
         ·cases mR
        obtain⟨r,o,sp⟩:=a
        simp only at wz;subst wz
        rw[←FH]
        have hn:∀c∈es,c.length=le.length:=fun c hc=>by
         obtain⟨i,hi,rfl⟩:=List.getElem_of_mem hc
         exact(z4 i _ (List.getElem?_eq_getElem hi)).1
        have cK:∀(i j:Nat) (c:List T) (t:T),es[i]?=some c→c[j]?=some t→∃v,W.cell? ⟨r,o+i*le.length+j,none⟩=some v∧VR (g0 P W) W t v∧t.one=true:=by
         intro i j c t hi hj
         obtain⟨q1,us,q2,q3,q4,_⟩:=z4 i c hi
         obtain⟨k1,k2⟩:=l3 q2
         have FI:j<us.length:=by rw[←q3.1];exact(List.getElem?_eq_some_iff.1 hj).1
         refine⟨us[j],?_,q3.2 j t _ hj (List.getElem?_eq_getElem FI),q4 t (List.mem_of_getElem? hj)⟩
         have:=k2 j us[j] (List.getElem?_eq_getElem FI)
         rw[←hc.1,a8,a8]at this
         exact this
        refine .sl (n:=le.length) (fun i j=>(W.cell? ⟨r,o+i*le.length+j,none⟩).getD undef) trivial (by omega) hn (fun i j c t hi hj=>?_) (fun i j c t hi hj=>?_)
        ·obtain⟨v,q1,q2,q3⟩:=cK i j c t hi hj
         exact⟨q3,by rw[q1];exact yn q1⟩
        ·obtain⟨v,q1,q2,q3⟩:=cK i j c t hi hj
         rw[q1];exact q2
      exact⟨rfl,[.sl .arg es],ax.cons bR ax.nil,by simp[aS,T.one],fun j s t hs ht=>by cases j with
       | zero=>simp at hs ht;subst hs;subst ht;exact x0
       | succ j=>simp at hs,by
       have FJ:=qX es (elems.map (·.1)) (by simp;omega) fun i c d hc hd=>by
        obtain⟨_,_,_,_,_,_,q⟩:=z4 i c hc
        exact q d hd
       simp only[jb,T.bk,aH];omega⟩
    ·cases h
   ·cases h
  ·rename_i fs hu
   split at h
   ·rename_i l' DA
    split at h
    ·rename_i hc
     cases h
     obtain⟨xs,m,_,hx,k1,k2,k3⟩:=DataW.trod_struct hu hd
     cases hx
     have z3:∀x∈xs,aH x.1≤B:=fun x hx=>by
      have:=gz (List.mem_map_of_mem (f:=(·.1)) hx);simp only[aH]at hb;omega
     obtain⟨ts,a1,a2,a3,a4⟩:=eb (n:=m) (cs:=cs) fs.toList 0 l xs DA (fun x _ l2 h2=>reads n x.type l2 h2) (by simpa using k2) (fun i x hi=>k3 i x (by simpa using hi)) z3 (by omega)
     have e1:(cs.drop 0).take l.length=cs:=by rw[List.drop_zero,hc,←k1];simp
     rw[e1]at a1
     exact⟨by omega,ts,a1,a2,a3,by simp only[aH];omega⟩
    ·cases h
   ·cases h
  ·rename_i k e hu
   split at h
   ·rename_i l' DA
    split at h
    ·rename_i hc
     cases h
     obtain⟨xs,m,_,hx,k1,k2,k3⟩:=DataW.trod_array hu hd
     cases hx
     have z3:∀x∈xs,aH x.1≤B:=fun x hx=>by
      have:=gz (List.mem_map_of_mem (f:=(·.1)) hx);simp only[aH]at hb;omega
     obtain⟨ts,a1,a2,a3,a4⟩:=eb (n:=m) (cs:=cs) (n9 k e (P.cellsOf e)) 0 l xs DA (fun x hx l2 h2=>by
      obtain⟨i,_,rfl⟩:=List.mem_map.1 hx;exact reads n e l2 h2) (by rw[k2];simp[n9]) (fun i x hi=>by
      simp only[n9,List.getElem?_map,Option.map_eq_some_iff]at hi
      obtain⟨j,hj,rfl⟩:=hi
      obtain⟨h1,h2⟩:=List.getElem?_eq_some_iff.1 hj
      rw[List.getElem_range]at h2
      subst h2
      exact k3 i (by simpa using h1)) z3 (by omega)
     have e1:(cs.drop 0).take l.length=cs:=by rw[List.drop_zero,hc,←k1];simp
     rw[e1]at a1
     exact⟨by omega,ts,a1,a2,a3,by simp only[aH];omega⟩
    ·cases h
   ·cases h
  ·cases h
def qZ (P:Program)(t:TypeId):Option Sh:=match P.underlying t with
 | some .bool|some (.int _)|some .string|some (.slice _)=>match jm P 9 t with
  | some [s]=>some s
  | _=>none
 | some (.struct _)|some (.array _ _)=>match jm P 9 t with
  | some l=>some (.ag l)
  | none=>none
 | _=>none
def gA (P:Program):List TypeId→Option (List Sh)
 | []=>some []
 | t :: ts=>match qZ P t,gA P ts with
  | some s,some l=>some (s :: l)
  | _,_=>none
inductive fx (B:Nat):List Sh→List T→Prop
 | nil:fx B [] []
 | cons {s t ss ts} (h:cA B s t) (hs:fx B ss ts):fx B (s :: ss) (t :: ts)
theorem re {base:Nat}{t:TypeId}{s:Sh}{v:Value}{d:DataW H}{p:List MemPlace}(h:qZ P t=some s)(hv:Value.okWide P W .any base t v)(hf:DataW.Trod enc P W 0 (fun _=>true) held t v d p)(hB:aH d≤B) :
  ∃u:T,VR (g0 P W) W u v∧cA B s u∧u.bk≤aH d:=by
 obtain⟨fuel,hf⟩:=hf
 have one:(∀cs,v≠.agg cs)→v.cells.toList=[v]:=by
  intro h;cases v<;>first|rfl|exact absurd rfl (h _)
 have sc:v.cells.toList=[v]→(match jm P 9 t with|some [s]=>some s|_=>none)=some s→∃u:T,VR (g0 P W) W u v∧cA B s u∧u.bk≤aH d:=by
  intro DB h
  split at h
  ·rename_i s' h3
   cases h
   obtain⟨c1,us,c2,c3,c4,c5⟩:=reads (B:=B) 9 t [s] h3 fuel _ d p hf hB
   rw[DB]at c2
   have FK:us.length=1:=by have:=c2.1;simpa using this
   obtain⟨u,rfl⟩:∃u,us=[u]:=by
    cases us with
    | nil=>simp at FK
    | cons u GZ=>cases GZ with
     | nil=>exact⟨u,rfl⟩
     | cons _ _=>simp at FK
   exact⟨u,c2.head,c4 0 s u rfl rfl,by simp only[jb]at c5;omega⟩
  ·cases h
 have ag:(∃cs,v=.agg cs)→(match jm P 9 t with|some l=>some (Sh.ag l)|none=>none)=some s→∃u:T,VR (g0 P W) W u v∧cA B s u∧u.bk≤aH d:=by
  rintro⟨cs,rfl⟩ h
  split at h
  ·rename_i l h3
   cases h
   obtain⟨c1,us,c2,c3,c4,c5⟩:=reads (B:=B) 9 t l h3 fuel _ d p hf hB
   have hc:(Value.agg cs).cells.toList=cs.toList:=rfl
   rw[hc]at c1 c2
   refine⟨.agg us,.agg (by have:=c2.1;simpa using this.symm) c3 (fun i t v a b=>c2.2 i t v a (by simpa using b)),.ag (by rw[c2.1,c1]) c4,by have:=eH d;simp only[T.bk];omega⟩
  ·cases h
 simp only[qZ]at h
 split at h
 ·rename_i hu
  exact sc (one (by rintro cs rfl;simp[Value.okWide,hu,Cell.okWide,Cell.ok]at hv)) h
 ·rename_i hu
  exact sc (one (by rintro cs rfl;simp[Value.okWide,hu,Cell.okWide,Cell.ok]at hv)) h
 ·rename_i hu
  exact sc (one (by rintro cs rfl;simp[Value.okWide,hu,Cell.okWide,Cell.ok]at hv)) h
 ·rename_i hu
  exact sc (one (by rintro cs rfl;simp[Value.okWide,hu,Cell.okWide,Cell.ok]at hv)) h
 ·rename_i hu
  exact ag (by cases v<;>first|exact⟨_,rfl⟩|simp[Value.okWide,hu]at hv) h
 ·rename_i hu
  exact ag (by cases v<;>first|exact⟨_,rfl⟩|simp[Value.okWide,hu]at hv) h
 ·cases h
theorem jQ {base:Nat}:∀(ts:List TypeId) (pS:List Sh) (args:List Value) (ds:List (DataW H)) (p:List MemPlace),gA P ts=some pS→(∀(j:Nat) t v,ts[j]?=some t→args[j]?=some v→Value.okWide P W .any base t v) →
  DataW.TrodAll enc P W 0 (fun _=>true) held ts args ds p→aC ds≤B→∃as:List T,ax (g0 P W) W as args∧fx B pS as∧jb as≤aC ds
 | [],pS,args,ds,p,h,_,hA,_=>by
  cases args<;>cases ds<;>simp[DataW.TrodAll]at hA
  simp only[gA,Option.some.injEq]at h;subst h
  exact⟨[],ax.nil,.nil,by simp[jb]⟩
 | t :: ts,pS,args,ds,p,h,l4,hA,hB=>by
  cases args with
  | nil=>cases ds<;>simp[DataW.TrodAll]at hA
  | cons v args =>
   cases ds with
   | nil=>simp[DataW.TrodAll]at hA
   | cons d ds =>
    obtain⟨p,q,hf,h2,_⟩:=hA
    simp only[gA]at h
    split at h
    ·rename_i s l h3 h4
     cases h
     simp only[aC]at hB
     obtain⟨as,b1,b2,b3⟩:=jQ ts l args ds q h4 (fun j t v a b=>l4 (j+1) t v (by simpa using a) (by simpa using b)) h2 (by omega)
     obtain⟨u,c1,c2,c3⟩:=re (B:=B) (base:=base) (d:=d) (p:=p) h3 (l4 0 t v rfl rfl) hf (by omega)
     refine⟨u :: as,ax.cons c1 b1,.cons c2 b2,?_⟩
     show T.bk u+jb as≤aH d+aC ds
     omega
    ·cases h
end
end Go.Rmp
end

section
namespace Go.Rmp
open Go.ChangeShapes Go.RowKit
section
variable {H:Type} {enc:TypeId×Value→H} {P:Program} {W W':World}
theorem fc {sp:Nat→Bool}{held:Bool}:∀(ts:List TypeId) (vs:List Value) (ds:List (DataW H)) (ps:List MemPlace),DataW.TrodAll enc P W 0 sp held ts vs ds ps→(∀p∈ps,W.sameAt W' p)→DataW.TrodAll enc P W' 0 sp held ts vs ds ps
 | [],[],[],_,h,_=>h
 | t :: ts,v :: vs,d :: ds,ps,⟨p,q,⟨n,hn⟩,h2,e⟩,hs=>⟨p,q,⟨n,DataW.trod_carry n t _ _ hn (fun x hx=>hs x (by rw[e];exact List.mem_append_left _ hx))⟩,fc ts vs ds q h2 (fun x hx=>hs x (by rw[e];exact List.mem_append_right _ hx)),e⟩
 | [],_ :: _,_,_,h,_=>h.elim
 | [],[],_ :: _,_,h,_=>h.elim
 | _ :: _,[],_,_,h,_=>h.elim
 | _ :: _,_ :: _,[],_,h,_=>h.elim
theorem nw {g:Ctx}{Hh:aa}(h:SR W g Hh W')(S:MemPlace→Prop):W.keptBut W' S:=by
 refine⟨h.env.1,h.env.2,fun i hi=>?_⟩
 rw[h.ep i hi]
 exact(World.keptBut_refl W S).2.2 i hi
theorem ny (h:∀r,r<W.heap.size→W'.heap[r]?=W.heap[r]?){b o:Nat}(hb:b<W.heap.size):W'.frozen? ⟨b,o,none⟩=W.frozen? ⟨b,o,none⟩:=by
 unfold World.frozen?
 rw[h _ hb]
theorem pE {E:Env}(hE:lR P E){f:FuncId}{as:List T}{args:List Value}(hv:ax (g0 P W) W as args)(hW:Go.Rmp.W E (.call f as) [] (fun o _=>o=.val (.bool true))) :
  Calls P f args.toArray W fun e W'=>e=.returned (.bool true)∧(∀S,W.keptBut W' S)∧∀r,r<W.heap.size→W'.heap[r]?=W.heap[r]?:=by
 obtain⟨_,hc⟩:=Go.Rmp.W.GN hE hW W (g0 P W) W args (GW P W) (GV P W) hv
 refine(callsIn_wide.1 hc).mono fun e W' ⟨v,t,g',H',he,hq,_,sr,bR,_⟩=>?_
 cases hq
 cases bR
 exact⟨he,nw sr,sr.ep⟩
theorem jn {E:Env}(hE:lR P E){f:FuncId}{fn:Func}{s:ChangeSpec}{pS:List Sh}{B:Nat}{tb:TypeId}(K:Kids P (·<P.types.size))(hz:∀t e,t<P.types.size→P.underlying t=some (.slice e)→0<P.cellsOf e)
  (x0:gA P fn.params.toList=some pS) (aD:∀t∈fn.params.toList,t<P.types.size) (Cw:fn.resultTypes=#[tb]) (Cx:P.underlying tb=some .bool) (ob:s.vars=[])
  (jP:∀ds:List (DataW H),ds.length=fn.params.toList.length→s.fn H ds={ results:=[.lit (.bool true)],args:=ds })
  (yo:∀as:List T,fx B pS as→jb as≤B→Go.Rmp.W E (.call f as) [] (fun o _=>o=.val (.bool true)))
  (base:Nat) (args:Array Value) (ds gs:List (DataW H)) (before:List MemPlace)
  (l4:∀(j:Nat) t v,fn.params[j]?=some t→args[j]?=some v→Value.okWide P W .any base t v)
  (hW:DataW.Whole enc P fn.params.toList s.vars false W args.toList ds gs before) (hB:aC (ds++gs)≤B) :
  Calls P f args W fun e W'=>∃v,e=.returned v∧s.post enc P fn false true false false W args v W':=by
 have Cy:=hW
 obtain⟨p,q,hA,hV,CV,Cc,jB⟩:=hW
 rw[ob]at hV
 obtain⟨rfl,rfl⟩:gs=[]∧q=[]:=by
  cases gs with
  | nil=>exact⟨rfl,hV⟩
  | cons _ _=>exact hV.elim
 simp only[List.append_nil]at CV hB
 subst CV
 obtain⟨as,fZ,G0,FJ⟩:=jQ fn.params.toList pS args.toList ds before x0 (fun j t v a b=>l4 j t v (by simpa using a) (by simpa using b)) hA hB
 have hc:=pE hE fZ (yo as G0 (Nat.le_trans FJ hB))
 rw[Array.toArray_toList]at hc
 refine hc.mono fun e W' ⟨he,hg,hold⟩=>⟨_,he,?_⟩
 have hlen:ds.length=fn.params.toList.length:=(trodAll_length hA).2
 have yp:=jP ds hlen
 have mH:∀p∈before,(fun b=>decide (b<W.heap.size)) p.block=true:=fun p hp=>by simpa using Cy.lt p hp
 have n7:∀sp:Nat→Bool,(∀p∈before,sp p.block=true)→DataW.TrodAll enc P W' 0 sp true fn.params.toList args.toList (s.fn H (ds++[])).args before:=by
  intro sp mH
  rw[List.append_nil,yp]
  refine DataW.TrodAll.respare K hz aD (fc _ _ _ _ hA fun x hx=>?_) mH
  have hb:=Cy.lt x hx
  cases x with
  | cell b o=>simp only[World.sameAt,World.cell?];rw[hold b hb]
  | map b=>exact hold b hb
 have gT:∀(b:Nat) (sp:Nat→Bool) (hd:Bool),DataW.TrodAll enc P W' b sp hd fn.resultTypes.toList ((Value.bool true).resultList fn.resultTypes.size) (s.fn H (ds++[])).results []:=by
  intro b sp hd
  rw[List.append_nil,yp,Cw]
  simp only[Value.resultList]
  exact trodAll_mk1 (shut_bool Cx _)
 have rf:∀sp:Nat→Bool,DataW.TrodVars enc P W' sp s.vars (s.fn H (ds++[])).vars []:=by
  intro sp
  rw[List.append_nil,yp,ob];rfl
 refine⟨ds,[],before,[],before,[],Cy,gT _ _ _,n7 _ mH,rf _,World.keptBut_mono (fun p hp=>⟨hp,?_⟩) (hg (fun p=>p∈before)),fun _=>?_⟩
 ·exact Or.inr (by simpa using hp)
 ·refine⟨fun j t r hj hr=>?_,_,_,([]++before)++[],⟨[]++before,[],trodAll_append (n7 _ (fun _ _=>rfl)) (gT _ _ _),rf _,rfl,?_,?_⟩,?_⟩
  ·rw[Cw]at hj hr
   cases j with
   | zero=>simp[Value.resultList]at hj hr;subst hj;subst hr;exact okWide_bool_mk Cx _
   | succ j=>simp at hj
  ·intro b off hp
   have Cg:MemPlace.cell b off∈before:=by simpa using hp
   have hb:b<W.heap.size:=Cy.lt _ Cg
   rw[ny hold hb]
   exact Cc b off Cg
  ·intro ha;cases ha
  ·intro p hp _
   simpa using hp
theorem kH {E:Env}(hE:lR P E){f:FuncId}{fn:Func}{s:ChangeSpec}{pS:List Sh}{B:Nat}{tb:TypeId}(K:Kids P (·<P.types.size))(hz:∀t e,t<P.types.size→P.underlying t=some (.slice e)→0<P.cellsOf e)
  (x0:gA P fn.params.toList=some pS) (aD:∀t∈fn.params.toList,t<P.types.size) (Cw:fn.resultTypes=#[tb]) (Cx:P.underlying tb=some .bool) (ob:s.vars=[])
  (jP:∀ds:List (DataW H),ds.length=fn.params.toList.length→s.fn H ds={ results:=[.lit (.bool true)],args:=ds })
  (yo:∀as:List T,fx B pS as→Go.Rmp.W E (.call f as) [] (fun o _=>o=.val (.bool true)))
  (base:Nat) (args:Array Value) (ds gs:List (DataW H)) (before:List MemPlace)
  (l4:∀(j:Nat) t v,fn.params[j]?=some t→args[j]?=some v→Value.okWide P W .any base t v)
  (hW:DataW.Whole enc P fn.params.toList s.vars false W args.toList ds gs before) (hB:aC (ds++gs)≤B) :
  Calls P f args W fun e W'=>∃v,e=.returned v∧s.post enc P fn false true false false W args v W' :=
 jn hE K hz x0 aD Cw Cx ob jP (fun as h _=>yo as h) base args ds gs before l4 hW hB
end
end Go.Rmp
end

section
namespace Go.Rmp
def kV (R:ai)(H:aa):List Rd→Prop
 | []=>True
 | r :: l=>(au R r.g=true→ae R H r.op=some (R r.d,H))∧kV R H l
theorem eI {R:ai}{H:aa}:∀(l:List Rd),kV R H l→cF R H l
 | [],_=>fun r h=>by cases h
 | x :: l,h=>fun r hr=>by
  rcases List.mem_cons.1 hr with rfl|hr
  ·exact h.1
  ·exact eI l h.2 r hr
theorem rh (R:ai)(d:Nat)(v:T):ay R (some d) v=jc R d v:=rfl
theorem rl (R:ai)(v:T):ay R none v=R:=rfl
theorem rm (R:ai)(d:Nat)(v:T)(t:Nat):jc R d v t=if t=d then v else R t:=rfl
theorem oc (a:T)(l:List T):dm (a :: l) 0=a:=rfl
theorem z5 (R:ai)(t:Nat):X.ev R (.r t)=R t:=rfl
theorem z6 (R:ai)(v:T):X.ev R (.c v)=v:=rfl
def rn (R:ai)(g:Gd)(s:List Rd):Bo→Prop
 | .eM _ c x y=>g=none∧s=[]∧c=.slice∧x.ev R=.sl .arg []∧y.ev R=.sl .nil []
 | _=>False
structure DC (E:Env)(R:ai)(H:aa)(x:X)(az:List X)(P:aa→Bool→Prop)(b n:Nat)(R0:ai)(ps:List Nat)(bf body:C)(M1 M:Out→aa→Prop):Prop where
 hf:x.ev R=.gY b
 hb:H[b]?=some (.loop .ready none n R0 ps bf body)
 hn:az.length=ps.length
 h1:W E (.code bf (fE R0 ps (az.map (X.ev R)))) H M1
 p0:∀o H',M1 o H'→(∃R1,o=.ex .normal R1)∧H'[b]?=some (.loop .ready none n R0 ps bf body)
 h2:∀R1 H1,M1 (.ex .normal R1) H1→W E (.code body R1) (H1.set b (.loop .busy none n R0 ps bf body)) M
 mP:∀o H',M o H'→H'[b]?=some (.loop .busy none n R0 ps bf body)
 h3:∀R' H',M (.ex .normal R') H'→P (H'.set b (.loop .ready none n R0 ps bf body)) true
 h4:∀e R' H',M (.ex e R') H'→e≠.normal→P (H'.set b (.loop .done (some e) n R0 ps bf body)) false
def rp (R:ai)(H:aa)(b:Bo)(v:T)(H':aa):Prop:=∃n bytes t y bb len cs,b=.app n bytes false (.r t) y∧R t=.aQ bb 0 len n∧H[bb]?=some (.cells cs)∧len*n=cs.length∧0<len ∧
 ae (jc R t (.sl (.own H.length len) (dP cs 0 len n))) (H.set bb (.fz cs)++[.tok len]) b=some (v,H')
def eg (E:Env):List O→ai→aa→(ai→aa→Prop)→Prop
 | [],R,H,K=>K R H
 | ⟨d,.b b,g,s⟩ :: l,R,H,K=>match au R g with
  | false=>eg E l (ay R d av) H K
  | true=>match ae R H b with
   | some (v,H')=>kV R H' s∧eg E l (ay R d v) H' K
   | none=>(rn R g s b∧∀t:Bool,eg E l (ay R d (.bool t)) H K) ∨
    (∃x bb bi es ix cur,b=.gO x∧x.ev R=.ptr bi 0∧H[bb]?=some (.cn es ix bi cur)∧∀t H',fH H bb bi es ix t H'→kV R H' s∧eg E l (ay R d t) H' K) ∨
    ∃v H',rp R H b v H'∧kV R H' s∧eg E l (ay R d v) H' K
 | ⟨d,.call f az,g,s⟩ :: l,R,H,K=>match au R g with
  | false=>eg E l (ay R d av) H K
  | true=>∃M:Out→aa→Prop,W E (.call f (az.map (X.ev R))) H M∧∀v H',M (.val v) H'→kV R H' s∧eg E l (ay R d v) H' K
 | ⟨d,.a6 x az,g,s⟩ :: l,R,H,K=>match au R g with
  | false=>eg E l (ay R d av) H K
  | true=>(∃(f:Nat) (cs:List T) (M:Out→aa→Prop),x.ev R=.fn f cs∧W E (.call f (az.map (X.ev R)++cs)) H M∧∀v H',M (.val v) H'→kV R H' s∧eg E l (ay R d v) H' K) ∨
   ∃b n R0 ps bf body M1 M,DC E R H x az (fun H' t=>kV R H' s∧eg E l (ay R d (.bool t)) H' K) b n R0 ps bf body M1 M
theorem cI {E:Env}{Q:Out→aa→Prop}:∀(l:List O) (R:ai) (H:aa),eg E l R H (fun R' H'=>Q (.ex .normal R') H')→W E (.ops l R) H Q
 | [],R,H,h=>.nil h
 | ⟨d,.b b,g,s⟩ :: l,R,H,h=>by
  simp only[eg]at h
  split at h
  ·rename_i hw;exact .no hw (cI l _ _ h)
  ·rename_i hw
   split at h
   ·rename_i v H' he;exact .op hw he (eI _ h.1) (cI l _ _ h.2)
   ·rcases h with h|⟨x,bb,bi,es,ix,cur,rfl,hx,hb,h⟩|⟨v,H',⟨n,bytes,t,y,bb,len,cs,rfl,ht,hb,hlen,h0,he⟩,h⟩
    ·cases b with
     | eM neg c x y =>
      obtain⟨⟨hg,hs,hc,hx,hy⟩,h⟩:=h
      subst hg
      exact .pZ hs (fun t=>cI l _ _ (h t)) hx hy hc
     | _=>exact h.1.elim
    ·exact .gO hw hx hb (fun t H' hm=>eI _ (h t H' hm).1) fun t H' hm=>cI l _ _ (h t H' hm).2
    ·exact .Cb hw ht hb hlen h0 he (eI _ h.1) (cI l _ _ h.2)
 | ⟨d,.call f az,g,s⟩ :: l,R,H,h=>by
  simp only[eg]at h
  split at h
  ·rename_i hw;exact .no hw (cI l _ _ h)
  ·rename_i hw
   obtain⟨M,h1,h2⟩:=h
   exact .call M hw h1 (fun v H' hm=>eI _ (h2 v H' hm).1) (fun v H' hm=>cI l _ _ (h2 v H' hm).2)
 | ⟨d,.a6 x az,g,s⟩ :: l,R,H,h=>by
  simp only[eg]at h
  split at h
  ·rename_i hw;exact .no hw (cI l _ _ h)
  ·rename_i hw
   rcases h with⟨f,cs,M,hf,h1,h2⟩|⟨b,n,R0,ps,bf,body,M1,M,h⟩
   ·exact .a6 M hw hf h1 (fun v H' hm=>eI _ (h2 v H' hm).1) (fun v H' hm=>cI l _ _ (h2 v H' hm).2)
   ·exact .gY M1 M hw h.hf h.hb h.hn h.h1 h.p0 h.h2 h.mP (fun R' H' hm=>eI _ (h.h3 R' H' hm).1) (fun R' H' hm=>cI l _ _ (h.h3 R' H' hm).2) (fun e R' H' hm he=>eI _ (h.h4 e R' H' hm he).1) (fun e R' H' hm he=>cI l _ _ (h.h4 e R' H' hm he).2)
def l5 (K:ai→aa→Prop)(Q:Out→aa→Prop):Out→aa→Prop
 | .ex .normal R,H=>K R H
 | o,H=>Q o H
def fy (id:Nat)(Q:Out→aa→Prop):Out→aa→Prop
 | .ex (.exit i) R,H=>if i=id then Q (.ex .normal R) H else Q (.ex (.exit i) R) H
 | o,H=>Q o H
def gU (E:Env):C→ai→aa→(Out→aa→Prop)→Prop
 | .skip,R,H,Q=>Q (.ex .normal R) H
 | .ops l,R,H,Q=>eg E l R H fun R' H'=>Q (.ex .normal R') H'
 | .seq a b,R,H,Q=>gU E a R H (l5 (fun R' H'=>gU E b R' H' Q) Q)
 | .cond x a b,R,H,Q=>match x.ev R with
  | .bool true=>gU E a R H Q
  | .bool false=>gU E b R H Q
  | _=>False
 | .block id a,R,H,Q=>gU E a R H (fy id Q)
 | .exit id,R,H,Q=>Q (.ex (.exit id) R) H
 | .ret,R,H,Q=>Q (.ex .ret R) H
 | .loop a,R,H,Q=>W E (.code (.loop a) R) H Q
 | .bo n x ps a b,R,H,Q=>W E (.code (.bo n x ps a b) R) H Q
theorem gB {E:Env}:∀(c:C) (R:ai) (H:aa) (Q:Out→aa→Prop),gU E c R H Q→W E (.code c R) H Q
 | .skip,R,H,Q,h=>.skip h
 | .ops l,R,H,Q,h=>.zm (cI l R H h)
 | .seq a b,R,H,Q,h=>.seq _ (gB a R H _ h) (fun R' H' hm=>gB b R' H' Q hm) (fun o H' hm hn=>by
  cases o with
  | ex e R'=>cases e with
   | normal=>exact absurd rfl (hn R')
   | exit id=>exact hm
   | ret=>exact hm
  | val v=>exact hm)
 | .cond x a b,R,H,Q,h=>by
  simp only[gU]at h
  split at h
  ·rename_i hx;exact .cond true hx (gB a R H Q h)
  ·rename_i hx;exact .cond false hx (gB b R H Q h)
  ·exact h.elim
 | .block id a,R,H,Q,h=>.block _ (gB a R H _ h) (fun R' H' hm=>by simpa[fy]using hm) (fun o H' hm hn=>by
  cases o with
  | ex e R'=>cases e with
   | normal=>exact hm
   | exit i =>
    simp only[fy]at hm
    split at hm
    ·rename_i e;subst e;exact absurd rfl (hn R')
    ·exact hm
   | ret=>exact hm
  | val v=>exact hm)
 | .exit id,R,H,Q,h=>.exit h
 | .ret,R,H,Q,h=>.ret h
 | .loop a,R,H,Q,h=>h
 | .bo n x ps a b,R,H,Q,h=>h
section
variable (E:Env) (R:ai) (H:aa) (K:ai→aa→Prop) (Q:Out→aa→Prop) (l:List O) (d:Option Nat) (s:List Rd)
def Cz:T→Bool
 | .bool c=>c
 | _=>false
def CA:T→Bool
 | .bool c=>!c
 | _=>false
def jR (b:Bo)(g:Gd)(e:Option (T×aa)):Prop:=match e with
 | some (v,H')=>kV R H' s∧eg E l (ay R d v) H' K
 | none=>(rn R g s b∧∀t:Bool,eg E l (ay R d (.bool t)) H K) ∨
  (∃x bb bi es ix cur,b=.gO x∧x.ev R=.ptr bi 0∧H[bb]?=some (.cn es ix bi cur)∧∀t H',fH H bb bi es ix t H'→kV R H' s∧eg E l (ay R d t) H' K) ∨
  ∃v H',rp R H b v H'∧kV R H' s∧eg E l (ay R d v) H' K
def vB (b:Bo)(g:Gd)(w:Bool):Prop:=match w with
 | false=>eg E l (ay R d av) H K
 | true=>jR E R H K l d s b g (ae R H b)
def z7 (v:T)(H':aa):Prop:=kV R H' s∧eg E l (ay R d v) H' K
def od (f:Nat)(az:List T):Prop:=∃M:Out→aa→Prop,W E (.call f az) H M∧∀v H',M (.val v) H'→z7 E R K l d s v H'
def vC (f:Nat)(az:List X)(w:Bool):Prop:=match w with
 | false=>eg E l (ay R d av) H K
 | true=>od E R H K l d s f (az.map (X.ev R))
def wA (R:ai)(H:aa):Prop:=Q (.ex .normal R) H
def wB (b:C)(R:ai)(H:aa):Prop:=gU E b R H Q
def rq (a b:C)(t:T):Prop:=match t with
 | .bool true=>gU E a R H Q
 | .bool false=>gU E b R H Q
 | _=>False
theorem wC:eg E [] R H K=K R H:=rfl
theorem FL (b:Bo):eg E (⟨d,.b b,none,s⟩ :: l) R H K=jR E R H K l d s b none (ae R H b):=rfl
theorem FM (b:Bo)(g:Nat×Bool):eg E (⟨d,.b b,some g,s⟩ :: l) R H K=vB E R H K l d s b (some g) (au R (some g)):=by simp only[eg,vB];rfl
theorem FN (f:Nat)(az:List X):eg E (⟨d,.call f az,none,s⟩ :: l) R H K=od E R H K l d s f (az.map (X.ev R)):=rfl
theorem z8 (f:Nat)(az:List X)(g:Nat×Bool):eg E (⟨d,.call f az,some g,s⟩ :: l) R H K=vC E R H K l d s f az (au R (some g)):=by simp only[eg,vC];rfl
theorem z9 {g:Nat×Bool}{x:X}{az:List X}(hg:au R (some g)=false):eg E (⟨d,.a6 x az,some g,s⟩ :: l) R H K=eg E l (ay R d av) H K:=by
 simp only[eg,hg]
theorem ru (neg:Bool)(c:tH)(x y:X):jR E R H K l d s (.eM neg c x y) none none=((s=[]∧c=.slice∧x.ev R=.sl .arg []∧y.ev R=.sl .nil [])∧∀t:Bool,eg E l (ay R d (.bool t)) H K):=by simp only[jR,rn,rp,true_and,reduceCtorEq,false_and,exists_false,or_false]
theorem rv (b:Bo)(g:Gd)(v:T)(H':aa):jR E R H K l d s b g (some (v,H'))=(kV R H' s∧eg E l (ay R d v) H' K):=rfl
theorem wD (b:Bo)(g:Gd):vB E R H K l d s b g true=jR E R H K l d s b g (ae R H b):=rfl
theorem wE (b:Bo)(g:Gd):vB E R H K l d s b g false=eg E l (ay R d av) H K:=rfl
theorem ry (f:Nat)(az:List X):vC E R H K l d s f az true=od E R H K l d s f (az.map (X.ev R)):=rfl
theorem rz (f:Nat)(az:List X):vC E R H K l d s f az false=eg E l (ay R d av) H K:=rfl
theorem aU {f:Nat}{az:List T}(M:Out→aa→Prop)(h1:W E (.call f az) H M)(h2:∀v H',M (.val v) H'→kV R H' s∧eg E l (ay R d v) H' K):od E R H K l d s f az:=⟨M,h1,h2⟩
theorem rA:gU E .skip R H Q=Q (.ex .normal R) H:=rfl
theorem wF:gU E (.ops l) R H Q=eg E l R H (wA Q):=rfl
theorem oe:wA Q R H=Q (.ex .normal R) H:=rfl
theorem wG (a b:C):gU E (.seq a b) R H Q=gU E a R H (l5 (wB E Q b) Q):=rfl
theorem rB (x:X)(a b:C):gU E (.cond x a b) R H Q=rq E R H Q a b (x.ev R):=rfl
theorem og (id:Nat)(a:C):gU E (.block id a) R H Q=gU E a R H (fy id Q):=rfl
theorem rC (id:Nat):gU E (.exit id) R H Q=Q (.ex (.exit id) R) H:=rfl
theorem wH:gU E .ret R H Q=Q (.ex .ret R) H:=rfl
theorem rD (a:C):gU E (.loop a) R H Q=W E (.code (.loop a) R) H Q:=rfl
theorem oh (n:Nat)(x:X)(ps:List Nat)(a b:C):gU E (.bo n x ps a b) R H Q=W E (.code (.bo n x ps a b) R) H Q:=rfl
theorem oj (b:C):wB E Q b R H=gU E b R H Q:=rfl
theorem rE (a b:C):rq E R H Q a b (.bool true)=gU E a R H Q:=rfl
theorem rF (a b:C):rq E R H Q a b (.bool false)=gU E b R H Q:=rfl
theorem rG (R:ai)(H:aa):l5 K Q (.ex .normal R) H=K R H:=rfl
theorem rH (R:ai)(H:aa):l5 K Q (.ex .ret R) H=Q (.ex .ret R) H:=rfl
theorem rI (id:Nat)(R:ai)(H:aa):l5 K Q (.ex (.exit id) R) H=Q (.ex (.exit id) R) H:=rfl
theorem wI (id:Nat)(R:ai)(H:aa):fy id Q (.ex .normal R) H=Q (.ex .normal R) H:=rfl
theorem wJ (id:Nat)(R:ai)(H:aa):fy id Q (.ex .ret R) H=Q (.ex .ret R) H:=rfl
theorem wK (id i:Nat)(R:ai)(H:aa):fy id Q (.ex (.exit i) R) H=if i=id then Q (.ex .normal R) H else Q (.ex (.exit i) R) H:=rfl
theorem rJ (t:Nat):au R (some (t,true))=Cz (R t):=by cases h:R t<;>simp[au,Cz,h]
theorem rK (t:Nat):au R (some (t,false))=CA (R t):=by cases h:R t<;>simp[au,CA,h]
theorem wL (c:Bool):Cz (.bool c)=c:=rfl
theorem wM:Cz av=false:=rfl
theorem wN:CA av=false:=rfl
theorem wO (c:Bool):CA (.bool c)=!c:=rfl
end
def nz (res:List Rs)(Q:Out→aa→Prop):Out→aa→Prop
 | .ex .normal R,H | .ex .ret R,H=>match fG R H res with
  | some v=>Q (.val v) H
  | none=>False
 | _,_=>False
theorem W.tE {E:Env}{f:Nat}{fn:Fn}{az:List T}{H:aa}{Q:Out→aa→Prop}(hf:E.fn f=some fn)(hr:fn.body.ej=false)(hn:az.length=fn.np)(h:gU E fn.body (dm az) H (nz fn.res Q)):W E (.call f az) H Q:=by
 refine .fn _ hf hr hn (gB _ _ _ _ h) fun o H' hm=>?_
 cases o with
 | ex e R =>
  cases e with
  | normal=>simp only[nz]at hm;split at hm;exact⟨R,.inl rfl,_,by assumption,hm⟩;exact hm.elim
  | exit id=>exact hm.elim
  | ret=>simp only[nz]at hm;split at hm;exact⟨R,.inr rfl,_,by assumption,hm⟩;exact hm.elim
 | val v=>exact hm.elim
theorem W.use {E:Env}{j:J}{H:aa}{Q Q':Out→aa→Prop}(h:W E j H Q)(hq:∀o H',Q o H'→Q' o H'):W E j H Q':=by
 induction h generalizing Q' with
 | skip h=>exact .skip (hq _ _ h)
 | exit h=>exact .exit (hq _ _ h)
 | ret h=>exact .ret (hq _ _ h)
 | zm _ ih=>exact .zm (ih hq)
 | seq M h1 h2 h3 _ ja=>exact .seq M h1 (fun R' H' hm=>ja R' H' hm hq) (fun o H' hm hn=>hq _ _ (h3 o H' hm hn))
 | cond t hx _ ih=>exact .cond t hx (ih hq)
 | block M h1 h2 h3 _=>exact .block M h1 (fun R' H' hm=>hq _ _ (h2 R' H' hm)) (fun o H' hm hn=>hq _ _ (h3 o H' hm hn))
 | loop M h1 h2 h3 _ ja=>exact .loop M h1 (fun R' H' hm=>ja R' H' hm hq) (fun o H' hm hn=>hq _ _ (h3 o H' hm hn))
 | nil h=>exact .nil (hq _ _ h)
 | no hg _ ih=>exact .no hg (ih hq)
 | op hg he hs _ ih=>exact .op hg he hs (ih hq)
 | call M hg h1 hs _ _ ja=>exact .call M hg h1 hs (fun v H' hm=>ja v H' hm hq)
 | a6 M hg hf h1 hs _ _ ja=>exact .a6 M hg hf h1 hs (fun v H' hm=>ja v H' hm hq)
 | gY M1 M hg hf hb hn h1 p0 h2 mP B8 _ B9 _ _ _ Cu Cv=>exact .gY M1 M hg hf hb hn h1 p0 h2 mP B8 (fun R' H' hm=>Cu R' H' hm hq) B9 (fun e R' H' hm he=>Cv e R' H' hm he hq)
 | pZ hs h hx hy hc ih=>exact .pZ hs (fun b=>ih b hq) hx hy hc
 | bo M hx h1 h2 _=>exact .bo M hx h1 (fun v H' hm=>let ⟨st,pe,a,b,c,d⟩:=h2 v H' hm;⟨st,pe,a,b,c,hq _ _ d⟩)
 | Ca M hf hn h1 h2 _=>exact .Ca M hf hn h1 (fun o H' hm=>let ⟨R',bs,a,b,c,d,v,e,f⟩:=h2 o H' hm;⟨R',bs,a,b,c,d,v,e,hq _ _ f⟩)
 | fn M hf hr hn h1 h2 _=>exact .fn M hf hr hn h1 (fun o H' hm=>let ⟨R',a,v,b,c⟩:=h2 o H' hm;⟨R',a,v,b,hq _ _ c⟩)
 | xr i M hi h1 h2 _=>exact .xr i M hi h1 (fun v H' hm=>hq _ _ (h2 v H' hm))
 | pL M h1 h2 _=>exact .pL M h1 (fun o H' hm=>let ⟨v,b,cs,a,c,d,e⟩:=h2 o H' hm;⟨v,b,cs,a,c,d,hq _ _ e⟩)
 | gO hg hx hb hs _ ih=>exact .gO hg hx hb hs fun t H' hm=>ih t H' hm hq
 | shr M h1 h2 _=>exact .shr M h1 (fun o H' hm=>let ⟨v,b,cs,k,a,c,d,e⟩:=h2 o H' hm;⟨v,b,cs,k,a,c,d,hq _ _ e⟩)
 | xu i hi hb _ ih=>exact .xu i hi hb (ih hq)
 | CJ hk hb _ ih=>exact .CJ hk hb (ih hq)
 | vw hl hv _ ih=>exact .vw hl hv (ih hq)
 | Cb hg ht hb hlen h0 he hs _ ih=>exact .Cb hg ht hb hlen h0 he hs (ih hq)
 | hJ h=>exact .hJ (E.mono _ _ _ _ _ h fun t H' hm=>hq _ _ hm)
def vD (v:T)(H:aa):Out→aa→Prop:=fun o H'=>o=.val v∧H'=H
theorem om (v v':T)(H H':aa):vD v H (.val v') H'=(v'=v∧H'=H):=by simp[vD]
theorem oo (a b:T)(l:List T):dm (a :: b :: l) 1=b:=rfl
theorem oq (a b c:T)(l:List T):dm (a :: b :: c :: l) 2=c:=rfl
theorem ot (a b c d:T)(l:List T):dm (a :: b :: c :: d :: l) 3=d:=rfl
theorem ou (a b c d e:T)(l:List T):dm (a :: b :: c :: d :: e :: l) 4=e:=rfl
def vE (v:T)(H:aa):Out→aa→Prop:=fun o H'=>o=.val v∧∃l,H'=H++l
theorem l6 (v v':T)(H l:aa):vE v H (.val v') (H++l)=(v'=v):=by simp[vE]
theorem jS (v v':T)(H:aa):vE v H (.val v') H=(v'=v):=by
 simp only[vE,Out.val.injEq,eq_iff_iff]
 exact⟨fun h=>h.1,fun h=>⟨h,[],by simp⟩⟩
theorem jT (k:IntKind)(n:Nat):aR (.int k (n:Int))=some n:=by simp[aR]
theorem wrap64 {n:Int}(h:-9223372036854775808≤n∧n<9223372036854775808):IntKind.i64.wrap n=n:=by
 unfold IntKind.wrap
 simp only[IntKind.signed,IntKind.bits]
 simp
 omega
theorem Aa (v:T):valOf false [v]=some v:=rfl
theorem Ab (cs:List T):valOf true cs=some (.agg cs):=rfl
theorem CB (a b:Nat):decide ((a:Int)<(b:Int))=decide (a<b):=by simp
theorem CC (a b:Nat):decide ((a:Int)≤(b:Int))=decide (a≤b):=by simp
theorem CD (a b:Nat):((a:Int)==(b:Int))=decide (a=b):=by rw[Bool.eq_iff_iff];simp;omega
theorem DD (a b:Nat):((a:Int) != (b:Int))=!decide (a=b):=by rw[Bool.eq_iff_iff];simp;omega
theorem rL:∀(a:List UInt8),Op.bytesLess a a=false
 | []=>rfl
 | x :: a=>by simp[Op.bytesLess,rL a]
theorem l7:∀(a b c:List UInt8),Op.bytesLess a b=true→Op.bytesLess b c=true→Op.bytesLess a c=true
 | _,[],_,h,_=>by cases ‹List UInt8›<;>simp[Op.bytesLess]at h
 | _,_ :: _,[],_,h=>by simp[Op.bytesLess]at h
 | [],_ :: _,_ :: _,_,_=>rfl
 | x :: a,y :: b,z :: c,h1,h2=>by
  simp only[Op.bytesLess,Bool.or_eq_true,decide_eq_true_eq,Bool.and_eq_true,beq_iff_eq]at h1 h2 ⊢
  rcases h1 with h1|⟨rfl,h1⟩
  ·rcases h2 with h2|⟨rfl,h2⟩
   ·exact .inl (UInt8.lt_trans h1 h2)
   ·exact .inl h1
  ·rcases h2 with h2|⟨rfl,h2⟩
   ·exact .inl h2
   ·exact .inr ⟨rfl,l7 a b c h1 h2⟩
theorem rM:∀(a b:List UInt8),Op.bytesLess a b=false→Op.bytesLess b a=false→a=b
 | [],[],_,_=>rfl
 | [],_ :: _,h,_=>by simp[Op.bytesLess]at h
 | _ :: _,[],_,h=>by simp[Op.bytesLess]at h
 | x :: a,y :: b,h1,h2=>by
  simp only[Op.bytesLess,Bool.or_eq_false_iff,decide_eq_false_iff_not,Bool.and_eq_false_iff,beq_eq_false_iff_ne]at h1 h2
  have e:x=y:=by
   have a1:=h1.1;have a2:=h2.1
   exact UInt8.le_antisymm (UInt8.not_lt.1 a2) (UInt8.not_lt.1 a1)
  subst e
  rw[rM a b (h1.2.resolve_left (fun h=>h rfl)) (h2.2.resolve_left (fun h=>h rfl))]
theorem toList_inj {a b:ByteArray}(h:a.toList=b.toList):a=b:=by
 have e:∀c:ByteArray,c.toList=c.data.toList:=fun c=>Go.ByteArray.toList_eq c
 rw[e,e]at h
 cases a;cases b
 simp only[ByteArray.mk.injEq]
 exact Array.toList_inj.1 h
theorem cB (a b:ByteArray):dj a b=decide (a=b):=by
 unfold dj
 rw[Bool.eq_iff_iff]
 simp only[beq_iff_eq,decide_eq_true_eq]
 exact⟨toList_inj,fun h=>by rw[h]⟩
theorem rN (a:ByteArray):strLt a a=false:=rL _
theorem pF {a b c:ByteArray}(h1:strLt a b=true)(h2:strLt b c=true):strLt a c=true:=l7 _ _ _ h1 h2
theorem yq {a b:ByteArray}(h1:strLt a b=false)(h2:strLt b a=false):a=b:=toList_inj (rM _ _ h1 h2)
theorem lt_asymm {a b:ByteArray}(h:strLt a b=true):strLt b a=false:=by
 cases e:strLt b a with
 | false=>rfl
 | true=>have:=pF h e;rw[rN]at this;cases this
theorem not_le (a b:ByteArray):(!(strLt b a||dj b a))=strLt a b:=by
 cases h:strLt a b with
 | true =>
  have h1:=lt_asymm h
  have h2:dj b a=false:=by rw[cB];simp;rintro rfl;rw[rN]at h;cases h
  simp[h1,h2]
 | false =>
  cases h1:strLt b a with
  | true=>simp
  | false=>have:=yq h h1;subst this;simp[cB]
def yr (n off:Nat):Option B→Option (List T)
 | some (.cells cs)=>if off+n≤cs.length then some ((cs.drop off).take n)else none
 | some (.fz cs)=>if off+n≤cs.length then some ((cs.drop off).take n)else none
 | _=>none
theorem oA (H:aa)(n b off:Nat):gG H n (.ptr b off)=yr n off H[b]?:=by
 simp only[gG,yr];rfl
theorem l8 (H:aa)(n:Nat)(cs:List T):gG H n (.cD cs)=if n≤cs.length then some (cs.take n)else none:=rfl
theorem rO (n off:Nat)(cs:List T):yr n off (some (.cells cs))=if off+n≤cs.length then some ((cs.drop off).take n)else none:=rfl
def yu (H:aa)(b:Nat)(vs:List T)(off:Nat):Option B→Option aa
 | some (.cells cs)=>if off+vs.length≤cs.length then some (H.set b (.cells (cs.take off++vs++cs.drop (off+vs.length))))else none
 | _=>none
theorem oB (H:aa)(vs:List T)(b off:Nat):tJ H vs (.ptr b off)=yu H b vs off H[b]?:=by
 simp only[tJ,yu];rfl
theorem rP (H:aa)(b:Nat)(vs:List T)(off:Nat)(cs:List T):yu H b vs off (some (.cells cs))=if off+vs.length≤cs.length then some (H.set b (.cells (cs.take off++vs++cs.drop (off+vs.length))))else none:=rfl
theorem oC (off b o:Nat):kf off (.ptr b o)=some (.ptr b (o+off)):=rfl
def rQ (id:Nat)(P:ai→aa→Prop)(Q:Out→aa→Prop):Out→aa→Prop
 | .ex (.exit i) R,H=>if i=id then P R H else Q (.ex (.exit i) R) H
 | o,H=>Q o H
theorem Ac (id:Nat)(P:ai→aa→Prop)(Q:Out→aa→Prop)(R:ai)(H:aa):rQ id P Q (.ex .normal R) H=Q (.ex .normal R) H:=rfl
theorem Ad (id:Nat)(P:ai→aa→Prop)(Q:Out→aa→Prop)(R:ai)(H:aa):rQ id P Q (.ex .ret R) H=Q (.ex .ret R) H:=rfl
theorem Ae (id i:Nat)(P:ai→aa→Prop)(Q:Out→aa→Prop)(R:ai)(H:aa):rQ id P Q (.ex (.exit i) R) H=if i=id then P R H else Q (.ex (.exit i) R) H:=rfl
def iM {α β:Type}[DecidableEq α](es:List (α×β))(k:α):Option β:=(es.find? fun e=>decide (k=e.1)).map (·.2)
def vF {α β:Type}[DecidableEq α](es:List (α×β))(k:α)(v:β):List (α×β) :=
 match es.findIdx? fun e=>decide (k=e.1)with
 | some i=>es.set i (k,v)
 | none=>es++[(k,v)]
section
variable {α β:Type} [DecidableEq α]
theorem nA (e:α×β)(es:List (α×β))(k:α):iM (e :: es) k=if k=e.1 then some e.2 else iM es k:=by
 unfold iM;rw[List.find?_cons];by_cases h:k=e.1<;>simp[h]
theorem pG (es:List (α×β))(k:α):iM es k=match es.findIdx? fun e=>decide (k=e.1)with
  | some i=>(es[i]?).map (·.2)
  | none=>none:=by
 induction es with
 | nil=>rfl
 | cons e es ih =>
  rw[nA,List.findIdx?_cons]
  by_cases h:k=e.1
  ·simp[h]
  ·simp only[h,if_false,decide_false,Bool.false_eq_true,ih]
   cases List.findIdx? (fun e=>decide (k=e.1)) es<;>simp
theorem rR {es:List (α×β)}{k:α}{i:Nat}(h:(es.findIdx? fun e=>decide (k=e.1))=some i):∃v,es[i]?=some (k,v):=by
 rw[List.findIdx?_eq_some_iff_getElem]at h
 obtain⟨hi,h,-⟩:=h
 refine⟨es[i].2,?_⟩
 rw[List.getElem?_eq_getElem hi]
 simp only[decide_eq_true_eq]at h
 rw[h]
end
def fA {α:Type}(ek:α→T)(es:List (α×T)):List (T×T):=es.map fun e=>(ek e.1,e.2)
structure l9 {α:Type}[DecidableEq α](kt:KT)(ek:α→T):Prop where
 has:∀a,(ek a).dt kt=true
 eq:∀a b,dk (ek a) (ek b)=some (decide (a=b))
section
variable {α:Type} [DecidableEq α] {kt:KT} {ek:α→T}
theorem nB (ho:l9 kt ek)(k:α):∀es:List (α×T),bl (ek k) (fA ek es)=some (es.findIdx? fun e=>decide (k=e.1))
 | []=>rfl
 | e :: es=>by
  have ih:=nB ho k es
  simp only[fA]at ih ⊢
  simp only[List.map_cons,bl,ho.eq,List.findIdx?_cons]
  cases h:decide (k=e.1)
  ·simp[ih]
  ·simp
def ma (o:Option T)(z:T)(ok:Bool):T:=match o with
 | some v=>if ok then .bg [v,.bool true]else v
 | none=>if ok then .bg [z,.bool false]else z
def mc (kt:KT)(z:T)(ok:Bool)(H:aa)(mb:Option B)(k:T):Option (T×aa):=match mb with
 | some (.map es)=>if k.dt kt then match bl k es with
  | some (some i)=>match es[i]? with
   | some e=>some (if ok then .bg [e.2,.bool true]else e.2,H)
   | none=>none
  | some none=>some (if ok then .bg [z,.bool false]else z,H)
  | none=>none else none
 | some (.cn es _ _ _)=>if k.dt kt then match bl k es with
  | some (some i)=>match es[i]? with
   | some e=>some (if ok then .bg [e.2,.bool true]else e.2,H)
   | none=>none
  | some none=>some (if ok then .bg [z,.bool false]else z,H)
  | none=>none else none
 | _=>none
def yv (kt:KT)(z:T)(ok:Bool)(H:aa)(m k:T):Option (T×aa):=match m with
 | .map b=>mc kt z ok H H[b]? k
 | .b7=>if k.dt kt then some (if ok then .bg [z,.bool false]else z,H)else none
 | _=>none
theorem rS (R:ai)(H:aa)(kt:KT)(z:T)(ok:Bool)(m k:X):ae R H (.gZ kt z ok m k)=yv kt z ok H (m.ev R) (k.ev R):=by
 unfold yv mc
 simp only[ae]
 cases h1:(k.ev R).dt kt
 ·simp only[Bool.false_eq_true,if_false]
  cases m.ev R with
  | map b=>simp only;split<;>rfl
  | _=>rfl
 ·simp only[if_true]
  cases m.ev R with
  | map b =>
   simp only[cp]
   cases H[b]? with
   | none=>rfl
   | some x=>cases x<;>rfl
  | b7=>simp only[cp,bl]
  | _=>rfl
theorem me (kt:KT)(z:T)(ok:Bool)(H:aa)(b:Nat)(k:T):yv kt z ok H (.map b) k=mc kt z ok H H[b]? k:=rfl
theorem rT (ho:l9 kt ek)(z:T)(ok:Bool)(H:aa)(es:List (α×T))(s:α):mc kt z ok H (some (.map (fA ek es))) (ek s)=some (ma (iM es s) z ok,H):=by
 simp only[mc,ho.has,nB ho,if_true,pG]
 cases h:List.findIdx? (fun e=>decide (s=e.1)) es with
 | none=>cases ok<;>rfl
 | some i =>
  obtain⟨v,hv⟩:=rR h
  have:(fA ek es)[i]?=some (ek s,v):=by simp[fA,hv]
  simp only[this,hv,ma,Option.map_some]
def mg (kt:KT)(H:aa)(b:Nat)(mb:Option B)(k v:T):Option (T×aa):=match mb with
 | some (.map es)=>if k.dt kt then match bl k es with
  | some (some i)=>some (av,H.set b (.map (es.set i (k,v))))
  | some none=>some (av,H.set b (.map (es++[(k,v)])))
  | none=>none else none
 | _=>none
def yw (kt:KT)(H:aa)(m k v:T):Option (T×aa):=match m with
 | .map b=>mg kt H b H[b]? k v
 | _=>none
theorem rU (R:ai)(H:aa)(kt:KT)(m k v:X):ae R H (.oN kt m k v)=yw kt H (m.ev R) (k.ev R) (v.ev R):=by
 unfold yw mg
 simp only[ae]
 cases m.ev R with
 | map b =>
  simp only
  cases h1:(k.ev R).dt kt
  ·simp only[Bool.false_eq_true,if_false];split<;>rfl
  ·simp only[if_true]
   cases H[b]? with
   | none=>rfl
   | some x=>cases x<;>rfl
 | _=>rfl
def yx (kt:KT)(H:aa)(b:Nat)(mb:Option B)(k:T):Option (T×aa):=match mb with
 | some (.map es)=>if k.dt kt then match bl k es with
  | some (some i)=>some (.bg [],H.set b (.map (es.eraseIdx i)))
  | some none=>some (.bg [],H)
  | none=>none else none
 | _=>none
def yz (kt:KT)(H:aa)(m k:T):Option (T×aa):=match m with
 | .map b=>yx kt H b H[b]? k
 | _=>none
theorem rV (R:ai)(H:aa)(kt:KT)(m k:X):ae R H (.del kt m k)=yz kt H (m.ev R) (k.ev R):=by
 unfold yz yx
 simp only[ae]
 cases m.ev R with
 | map b =>
  simp only
  cases h1:(k.ev R).dt kt
  ·simp only[Bool.false_eq_true,if_false];split<;>rfl
  ·simp only[if_true]
   cases H[b]? with
   | none=>rfl
   | some x=>cases x<;>rfl
 | _=>rfl
theorem mh (kt:KT)(H:aa)(b:Nat)(k:T):yz kt H (.map b) k=yx kt H b H[b]? k:=rfl
def yA (H:aa)(b:Nat):Option B→Option (T×aa)
 | some (.map es)=>some (.ptr H.length 0,H.set b (.cn es (List.range es.length) H.length none)++[.pK b])
 | some (.cn es _ _ _)=>some (.ptr H.length 0,H.set b (.cn es (List.range es.length) H.length none)++[.pK b])
 | _=>none
def yB (H:aa):T→Option (T×aa)
 | .map b=>yA H b H[b]?
 | _=>none
theorem rW (R:ai)(H:aa)(x:X):ae R H (.v5 x)=yB H (x.ev R):=by
 simp only[ae]
 cases x.ev R with
 | map b =>
  simp only[cp,yB]
  cases H[b]? with
  | none=>rfl
  | some y=>cases y<;>rfl
 | _=>rfl
theorem mi (H:aa)(b:Nat):yB H (.map b)=yA H b H[b]?:=rfl
theorem rX (H:aa)(b:Nat)(es:List (T×T)):yA H b (some (.map es))=some (.ptr H.length 0,H.set b (.cn es (List.range es.length) H.length none)++[.pK b]):=rfl
theorem rY (R:ai)(H:aa)(x:X):ae R H (.gO x)=none:=rfl
def vG (H:aa)(bi:Nat):Option B→Option (T×aa)
 | some (.cn es _ v9 (some c))=>if v9=bi then(es[c]?).map fun e=>(.bg [e.1,e.2],H)else none
 | _=>none
def vH (H:aa)(bi:Nat):Option B→Option (T×aa)
 | some (.pK b)=>vG H bi H[b]?
 | _=>none
def yC (H:aa):T→Option (T×aa)
 | .ptr bi 0=>vH H bi H[bi]?
 | _=>none
theorem rZ (R:ai)(H:aa)(x:X):ae R H (.v7 x)=yC H (x.ev R):=by
 simp only[ae]
 cases x.ev R with
 | ptr bi o =>
  cases o with
  | zero =>
   simp only[yC]
   cases H[bi]? with
   | none=>rfl
   | some y=>cases y with
    | pK b =>
     simp only[vH]
     cases H[b]? with
     | none=>rfl
     | some z=>cases z with
      | cn es ix v9 cur=>cases cur<;>rfl
      | _=>rfl
    | _=>rfl
  | succ _=>rfl
 | _=>rfl
theorem mj (H:aa)(bi:Nat):yC H (.ptr bi 0)=vH H bi H[bi]?:=rfl
theorem r4 (H:aa)(bi b:Nat):vH H bi (some (.pK b))=vG H bi H[b]?:=rfl
theorem r5 (H:aa)(bi:Nat)(es:List (T×T))(ix:List Nat)(c:Nat):vG H bi (some (.cn es ix bi (some c)))=(es[c]?).map fun e=>(.bg [e.1,e.2],H):=by simp only[vG,if_true]
def Af (H:aa)(b off len n n':Nat)(z:List T):Option B→Option (T×aa)
 | some (.cells cs)=>if n'=n∧z.length=n∧off+len*n≤cs.length then some (av,H.set b (.cells (cs.take off++(List.replicate len z).flatten++cs.drop (off+len*n))))else none
 | _=>none
def yD (H:aa)(n:Nat)(z:List T):T→Option (T×aa)
 | .aQ b off len n'=>Af H b off len n n' z H[b]?
 | _=>none
theorem r6 (R:ai)(H:aa)(n:Nat)(z:List T)(x:X):ae R H (.zk n z x)=yD H n z (x.ev R):=by
 simp only[ae]
 cases x.ev R with
 | aQ b off len n' =>
  simp only[yD]
  cases H[b]? with
  | none=>rfl
  | some y=>cases y<;>rfl
 | _=>rfl
theorem ml (H:aa)(n:Nat)(z:List T)(b off len n':Nat):yD H n z (.aQ b off len n')=Af H b off len n n' z H[b]?:=rfl
theorem mm (kt:KT)(H:aa)(b:Nat)(k v:T):yw kt H (.map b) k v=mg kt H b H[b]? k v:=rfl
theorem r7 (ho:l9 kt ek)(H:aa)(b:Nat)(es:List (α×T))(s:α)(v:T):mg kt H b (some (.map (fA ek es))) (ek s) v=some (av,H.set b (.map (fA ek (vF es s v)))):=by
 simp only[mg,ho.has,nB ho,if_true,vF]
 cases h:List.findIdx? (fun e=>decide (s=e.1)) es with
 | none=>simp[fA]
 | some i=>simp[fA]
end
theorem Ag:l9 (.sc .str) T.str:=⟨fun _=>rfl,fun a b=>by simp only[dk,dz,cB]⟩
def kU (n:Nat):T:=.int .u64 n
theorem Ah:l9 (.sc .int) kU:=⟨fun _=>rfl,fun a b=>by simp only[kU,dk,dz,if_true,CD]⟩
theorem r8 (z:T)(ok:Bool)(H:aa)(es:List (ByteArray×T))(s:ByteArray):mc (.sc .str) z ok H (some (.map (fA T.str es))) (.str s)=some (ma (iM es s) z ok,H):=rT Ag z ok H es s
theorem r9 (z:T)(ok:Bool)(H:aa)(es:List (Nat×T))(s:Nat):mc (.sc .int) z ok H (some (.map (fA kU es))) (.int .u64 s)=some (ma (iM es s) z ok,H):=rT Ah z ok H es s
theorem sa (H:aa)(b:Nat)(es:List (ByteArray×T))(s:ByteArray)(v:T):mg (.sc .str) H b (some (.map (fA T.str es))) (.str s) v=some (av,H.set b (.map (fA T.str (vF es s v)))):=r7 Ag H b es s v
theorem sb (H:aa)(b:Nat)(es:List (Nat×T))(s:Nat)(v:T):mg (.sc .int) H b (some (.map (fA kU es))) (.int .u64 s) v=some (av,H.set b (.map (fA kU (vF es s v)))):=r7 Ah H b es s v
theorem mo (v z:T):ma (some v) z false=v:=rfl
theorem mq (z:T):ma none z false=z:=rfl
theorem jU (v z:T):ma (some v) z true=.bg [v,.bool true]:=rfl
theorem jV (z:T):ma none z true=.bg [z,.bool false]:=rfl
end Go.Rmp
end
