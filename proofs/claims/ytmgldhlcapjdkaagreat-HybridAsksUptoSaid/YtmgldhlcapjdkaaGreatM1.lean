/- Part of a proof of a law of this seat: the machine of plain values, its simulation, and the contracts of the functions that the law reaches. Conditions: none beyond the given row. -/
import Derived.Test.YtmgldhlcapjdkaaGreatM0
import Derived.RangeFuncRecord
import Derived.RangeFuncIn
import Derived.OpenShut
import Derived.RowKit3
import Derived.ChangeSame
import Derived.ReadAgain
import Derived.ChangeCalls
import Derived.Deep.Frames
import Derived.Laws.Strings
open Int renaming reduceLT → q6, reduceLE → q7, reduceBEq → q8, reduceBNe → q9, reduceEq → y1
open Nat renaming reduceAdd → y2, reduceLeDiff → y3, reduceLT → y4, reduceEqDiff → y5
set_option linter.unusedSimpArgs false
set_option linter.unusedVariables false
set_option linter.unnecessarySimpa false
set_option maxHeartbeats 4000000
section
namespace Go.Rmp
section
variable {P:Program} {w0 w:World} {g:Ctx} {H H':ae} {R:ax} {ρ:Operand→Value} {t:T}
theorem eu {ty:TypeId}{z:List T}(h:zeroOf P ty=some z):∃i zv,P.info? ty=some i∧i.zero=some zv∧dy zv.cells.toList=some z:=by
 unfold zeroOf at h
 cases h1:P.info? ty with
 | none=>simp[h1]at h
 | some i =>
  simp only[h1]at h
  cases h2:i.zero with
  | none=>simp[h2]at h
  | some zv=>simp only[h2]at h;exact⟨i,zv,rfl,h2,h⟩
theorem uv {gw:List TypeId}{rt:TypeId}{mu:Bool}{as:List X}{vs:List Value}{b:Bo}(hc:jF P mu gw as=some b)(h:SR w0 g H w)(hv:a6 g w (as.map (X.ev R)) vs)(he:av R H b=some (t,H')) :
  bp P w0 g H w (Builtin.append_ gw.toArray rt vs.toArray) t H':=by
 unfold jF at hc
 split at hc
 ·rename_i sT xT x y
  cases vs with
  | nil=>have:=hv.1;simp at this
  | cons vx vs =>
   cases vs with
   | nil=>have:=hv.1;simp at this
   | cons vy vs =>
    cases vs with
    | cons _ _=>have:=hv.1;simp at this
    | nil =>
     have hx:VR g w (x.ev R) vx:=hv.head
     have hy:VR g w (y.ev R) vy:=hv.tail.head
     cases hs:P.underlying sT with
     | none=>simp[hs]at hc
     | some ds =>
      cases DW:P.underlying xT with
      | none=>cases ds<;>simp[hs,DW]at hc
      | some dx =>
       cases ds<;>simp only[hs,DW]at hc<;>(try (cases hc;done))
       rename_i e
       cases hi:P.info? e with
       | none=>simp[hi]at hc
       | some ei =>
        simp only[hi]at hc
        cases hz:ei.zero with
        | none=>simp[hz]at hc
        | some zv =>
         simp only[hz]at hc
         split at hc
         ·rename_i a9
          simp only[Bool.and_eq_true,beq_iff_eq,bne_iff_ne]at a9
          simp at hc;subst hc
          have E:mh P sT xT e ei zv ei.size ei.bytes:=⟨hs,hi,⟨dx,DW,fun k e=>by subst e;simp[y9]at a9⟩,rfl,hz,a9.1.2,rfl,a9.2⟩
          simp only[av]at he
          cases o7:bl H ei.size (y.ev R)with
          | none=>simp[o7]at he
          | some new =>
           simp only[o7]at he
           cases mu with
           | true =>
            simp only[if_true]at he
            exact yV E h hx.FB hy o7 he
           | false =>
            simp only[Bool.false_eq_true,if_false]at he
            generalize x.ev R=tx at hx he
            cases tx<;>(try simp only[reduceCtorEq]at he)
            split at he
            ·rename_i cj
             exact DM E h hx hy cj o7 he
            ·cases he
         ·cases hc
 ·cases hc
theorem D6 {gw:List TypeId}{rt:TypeId}{as:List X}{vs:List Value}{b:Bo}(hc:sk P gw as=some b)(h:SR w0 g H w)(hv:a6 g w (as.map (X.ev R)) vs)(he:av R H b=some (t,H')) :
  bp P w0 g H w (Builtin.append_ gw.toArray rt vs.toArray) t H':=by
 unfold sk at hc
 split at hc
 ·rename_i sT xT x k
  cases vs with
  | nil=>have:=hv.1;simp at this
  | cons vx vs =>
   cases vs with
   | nil=>have:=hv.1;simp at this
   | cons vk vs =>
    cases vs with
    | cons _ _=>have:=hv.1;simp at this
    | nil =>
     have hx:VR g w (x.ev R) vx:=hv.head
     have hk:VR g w (k.ev R) vk:=hv.tail.head
     cases hs:P.underlying sT with
     | none=>simp[hs]at hc
     | some ds =>
      cases DW:P.underlying xT with
      | none=>cases ds<;>simp[hs,DW]at hc
      | some dx =>
       cases ds<;>cases dx<;>simp only[hs,DW]at hc<;>(try (cases hc;done))
       rename_i e kn
       cases hi:P.info? e with
       | none=>simp[hi]at hc
       | some ei =>
        cases hz:zeroOf P e with
        | none=>simp[hi,hz]at hc
        | some z =>
         simp only[hi,hz]at hc
         split at hc
         ·rename_i a9
          simp only[bne_iff_ne,ne_eq]at a9
          simp only[Option.some.injEq]at hc;subst hc
          obtain⟨i,zv,h1,h2,h3⟩:=eu hz
          rw[hi]at h1;cases h1
          simp only[av,Option.bind_eq_some_iff]at he
          obtain⟨kk,bE,he⟩:=he
          generalize k.ev R=tk at hk bE
          cases hk<;>simp only[bd]at bE<;>(try (cases bE;done))
          rename_i kq m
          split at bE
          ·rename_i hm
           simp only[Option.some.injEq]at bE
           subst bE
           have:=DV (rt:=rt) (kq:=kq) hs DW hi h2 h3 a9 h hx he
           rw[Int.toNat_of_nonneg hm]at this
           exact this
          ·cases bE
         ·cases hc
 ·cases hc
theorem D7 {f:FuncId}{n:Nat}{x y:X}{args:Array Operand}{ρ:Operand→Value}(tU:vF P f=some n)(h:SR w0 g H w)(l3:a6 g w ([x,y].map (X.ev R)) (args.toList.map ρ))(he:yq H n (x.ev R) (y.ev R)=some (t,H')) :
  C0 P w0 g H w (callFunc f (args.map ρ)) t H':=by
 unfold vF at tU
 cases hf:P.funcs[f]? with
 | none=>simp[hf]at tU
 | some fn =>
  simp only[hf]at tU
  cases hp:fn.params[0]? with
  | none=>simp[hp]at tU
  | some tS =>
   simp only[hp]at tU
   cases ht:P.underlying tS with
   | none=>simp[ht]at tU
   | some d =>
    cases d<;>simp only[ht]at tU<;>(try (cases tU;done))
    rename_i e
    cases hi:P.info? e with
    | none=>simp[hi]at tU
    | some ei =>
     simp only[hi]at tU
     split at tU
     ·rename_i hc
      simp only[Option.some.injEq]at tU;subst tU
      simp only[Bool.and_eq_true,FM,Option.isNone_iff_eq_none,beq_iff_eq,bne_iff_ne,ne_eq]at hc
      obtain⟨⟨⟨⟨c1,c2⟩,c3⟩,c4⟩,⟨c5,c6⟩,c7⟩:=hc
      have J8:Extern.find fn=some (Extern.SlicesOverlaps.overlaps fn.params fn.resultTypes):=by
       have r1:Extern.allGenericRows.lookup "slices.overlaps"=none:=by kernel_rfl
       have r2:Extern.allTypedRows.lookup "slices.overlaps"=some Extern.SlicesOverlaps.overlaps:=by kernel_rfl
       unfold Extern.find
       simp only[c4,c5,c6,c7,r1,r2,Option.map_none,Option.map_some]
       rfl
      cases ha:args.toList.map ρ with
      | nil=>rw[ha]at l3;have:=l3.1;simp at this
      | cons vx vs =>
       cases vs with
       | nil=>rw[ha]at l3;have:=l3.1;simp at this
       | cons vy vs =>
        cases vs with
        | cons _ _=>rw[ha]at l3;have:=l3.1;simp at this
        | nil =>
         rw[ha]at l3
         have hx:VR g w (x.ev R) vx:=l3.head
         have hy:VR g w (y.ev R) vy:=l3.tail.head
         have gR:args.map ρ=#[vx,vy]:=by apply Array.ext';simp[ha]
         obtain⟨v,w',g',h1,h2,h3,h4,h5⟩:=DX (results:=fn.resultTypes) hp ht hi h hx hy he
         refine⟨.value v,v,w',g',?_,.inl rfl,h2,h3,h4,h5⟩
         rw[gR,run_callFunc_extern hf (by simpa using c1) (by simp[c2]) c3 J8,h1]
         rfl
     ·cases tU
theorem sn {bi:Builtin}{gw:List TypeId}{rt:TypeId}{cs:Array Bool}{mu:Bool}{as:List X}{vs:List Value}{b:Bo}(hc:gS P mu bi gw as=some b)(h:SR w0 g H w)(hv:a6 g w (as.map (X.ev R)) vs)(he:av R H b=some (t,H')) :
  C0 P w0 g H w (builtin bi gw.toArray rt cs vs.toArray) t H':=by
 have two:∀(x y:X),as=[x,y]→∃vx vy,vs=[vx,vy]∧VR g w (x.ev R) vx∧VR g w (y.ev R) vy:=by
  rintro x y rfl
  cases vs with
  | nil=>have:=hv.1;simp at this
  | cons vx vs =>
   cases vs with
   | nil=>have:=hv.1;simp at this
   | cons vy vs =>
    cases vs with
    | cons _ _=>have:=hv.1;simp at this
    | nil=>exact⟨vx,vy,rfl,hv.head,hv.tail.head⟩
 unfold gS at hc
 split at hc
 ·cases hz:sk P gw as with
  | some b'=>rw[hz]at hc;simp only[Option.some.injEq]at hc;subst hc;exact(D6 hz h hv he).kE
  | none=>rw[hz]at hc;exact(uv hc h hv he).kE
 ·-- cap
  rename_i ty x
  cases vs with
  | nil=>have:=hv.1;simp at this
  | cons vx vs =>
   cases vs with
   | cons _ _=>have:=hv.1;simp at this
   | nil =>
    have hx:VR g w (x.ev R) vx:=hv.head
    cases hu:P.underlying ty with
    | none=>simp[hu]at hc
    | some d =>
     cases d<;>simp only[hu]at hc<;>(try (cases hc;done))
     simp only[Option.some.injEq]at hc;subst hc
     simp only[av]at he
     generalize x.ev R=tx at hx he
     cases tx<;>simp only[reduceCtorEq,Option.some.injEq,Prod.mk.injEq]at he
     obtain⟨rfl,rfl⟩:=he
     exact(DS hu h hx).kE
 ·-- copy
  rename_i dT sT x y
  obtain⟨vx,vy,rfl,hx,hy⟩:=two x y rfl
  cases hu:P.underlying dT with
  | none=>simp[hu]at hc
  | some d =>
   cases d<;>simp only[hu]at hc<;>(try (cases hc;done))
   rename_i e
   cases hi:P.info? e with
   | none=>simp[hi]at hc
   | some ei =>
    simp only[hi,Option.map_some,Option.some.injEq]at hc;subst hc
    simp only[av]at he
    exact(DT hu hi h hx hy he).kE
 ·-- len
  rename_i ty x
  cases vs with
  | nil=>have:=hv.1;simp at this
  | cons vx vs =>
   cases vs with
   | cons _ _=>have:=hv.1;simp at this
   | nil =>
    have hx:VR g w (x.ev R) vx:=hv.head
    cases hu:P.underlying ty with
    | none=>simp[hu]at hc
    | some d =>
     have hl:∃k,N7 k d=true∧b=.len k x:=by
      cases d<;>simp[hu]at hc
      ·exact⟨.str,rfl,hc.symm⟩
      ·exact⟨.sl,rfl,hc.symm⟩
      ·exact⟨.map,rfl,hc.symm⟩
     obtain⟨k,hk,rfl⟩:=hl
     simp only[av,Option.map_eq_some_iff,Prod.mk.injEq]at he
     obtain⟨n,h1,rfl,rfl⟩:=he
     exact(Dp hu hk h hx h1).kE
 ·-- clear
  rename_i ty x
  cases vs with
  | nil=>have:=hv.1;simp at this
  | cons vx vs =>
   cases vs with
   | cons _ _=>have:=hv.1;simp at this
   | nil =>
    have hx:VR g w (x.ev R) vx:=hv.head
    cases hu:P.underlying ty with
    | none=>simp[hu]at hc
    | some d =>
     cases d<;>simp only[hu]at hc<;>(try (cases hc;done))
     rename_i e
     cases hi:P.info? e with
     | none=>simp[hi]at hc
     | some ei =>
      cases hz:zeroOf P e with
      | none=>simp[hi,hz]at hc
      | some z =>
       simp only[hi,hz,Option.some.injEq]at hc;subst hc
       obtain⟨i,zv,k1,k2,k3⟩:=eu hz
       rw[hi]at k1;cases k1
       simp only[av]at he
       generalize x.ev R=tx at hx he
       cases tx<;>(try (simp only[reduceCtorEq]at he;done))
       rename_i bb off len n'
       simp only at he
       cases hb:H[bb]? with
       | none=>simp[hb]at he
       | some y =>
        cases y<;>simp only[hb]at he<;>(try (cases he;done))
        rename_i Te
        split at he
        ·rename_i qH
         obtain⟨rfl,sg,hle⟩:=qH
         simp only[Option.some.injEq,Prod.mk.injEq]at he
         obtain⟨rfl,rfl⟩:=he
         exact(D2 hu hi k2 k3 h hx hb sg hle).kE
        ·cases he
 ·rename_i x y
  obtain⟨vx,vy,rfl,hx,hy⟩:=two x y rfl
  simp at hc;subst hc
  simp only[av]at he
  generalize x.ev R=tx at hx he
  generalize y.ev R=Hz at hy he
  cases tx<;>cases Hz<;>simp only[reduceCtorEq,Option.some.injEq,Prod.mk.injEq]at he
  obtain⟨rfl,rfl⟩:=he
  exact(Hb h hx hy).kE
 ·rename_i x y
  obtain⟨vx,vy,rfl,hx,hy⟩:=two x y rfl
  simp at hc;subst hc
  simp only[av]at he
  generalize x.ev R=tx at hx he
  generalize y.ev R=Hz at hy he
  cases tx<;>cases Hz<;>simp only[reduceCtorEq,Option.some.injEq,Prod.mk.injEq]at he
  obtain⟨rfl,rfl⟩:=he
  exact(Hc h hx hy).kE
 ·-- delete
  rename_i ty xt m k
  obtain⟨vm,vk,rfl,hm,hk⟩:=two m k rfl
  cases hu:P.underlying ty with
  | none=>simp[hu]at hc
  | some d =>
   cases d<;>simp only[hu]at hc<;>(try (cases hc;done))
   rename_i key elem
   cases ic:qJ P key with
   | none=>simp[ic]at hc
   | some kt =>
    simp only[ic]at hc
    split at hc
    ·rename_i l9
     simp at hc;subst hc
     simp only[av]at he
     generalize m.ev R=tm at hm he
     cases tm<;>(try simp only[reduceCtorEq]at he)
     rename_i bb
     split at he
     ·rename_i ui
      cases hb:H[bb]? with
      | none=>simp[hb]at he
      | some z =>
       cases z<;>simp only[hb]at he<;>(try (cases he;done))
       rename_i es
       cases hr:cw (k.ev R) es with
       | none=>simp[hr]at he
       | some r =>
        have:=DI (rt:=rt) (xt:=xt) hu l9 h hm hk ui hb hr
        cases r with
        | none=>simp only[hr,Option.some.injEq,Prod.mk.injEq]at he;obtain⟨rfl,rfl⟩:=he;exact this.kE
        | some i=>simp only[hr,Option.some.injEq,Prod.mk.injEq]at he;obtain⟨rfl,rfl⟩:=he;exact this.kE
     ·cases he
    ·cases hc
 ·cases hc
theorem vH {ty:TypeId}{m k:X}{e:Nat}{kt:KT}{z:T}(h:uu P ty m k=some (e,kt,z)):∃key ei zv,P.underlying ty=some (.map key e)∧P.info? e=some ei∧ei.zero=some zv∧ku zv=some z∧kv P key kt=true:=by
 unfold uu at h
 cases hu:P.underlying ty with
 | none=>simp[hu]at h
 | some d =>
  cases d<;>simp only[hu]at h<;>(try (cases h;done))
  rename_i key e'
  cases h1:qJ P key with
  | none=>simp[h1]at h
  | some VG =>
   cases h2:P.info? e' with
   | none=>simp[h1,h2]at h
   | some ei =>
    simp only[h1,h2]at h
    cases h3:ei.zero with
    | none=>simp[h3]at h
    | some zv =>
     simp only[h3]at h
     cases h4:ku zv with
     | none=>simp[h4]at h
     | some z' =>
      simp only[h4]at h
      split at h
      ·rename_i l9
       simp at h
       obtain⟨rfl,rfl,rfl⟩:=h
       exact⟨key,ei,zv,rfl,h2,h3,h4,l9⟩
      ·cases h
theorem vI {ty:TypeId}{m k v:X}{vm vk vv:Value}{e:Nat}{kt:KT}{z:T}(hc:uu P ty m k=some (e,kt,z))(h:SR w0 g H w)(hm:VR g w (m.ev R) vm)(hk:VR g w (k.ev R) vk)(hv:VR g w (v.ev R) vv)(he:av R H (.x7 kt m k v)=some (t,H')) :
  C0 P w0 g H w (do Instr.mapUpdate ty vm vk vv;pure Next.skip) t H':=by
 obtain⟨key,ei,zv,hu,hi,hz,oW,l9⟩:=vH hc
 simp only[av]at he
 generalize m.ev R=tm at hm he
 cases tm<;>(try simp only[reduceCtorEq]at he)
 rename_i bb
 split at he
 ·rename_i ui
  cases hb:H[bb]? with
  | none=>simp[hb]at he
  | some y =>
   cases y<;>simp only[hb]at he<;>(try (cases he;done))
   rename_i es
   cases hr:cw (k.ev R) es with
   | none=>simp[hr]at he
   | some r =>
    obtain⟨w',g',h1,h2,h3,h4⟩:=DH hu l9 h hm hk hv ui hb hr
    cases r with
    | none=>simp only[hr,Option.some.injEq,Prod.mk.injEq]at he;obtain⟨rfl,rfl⟩:=he;exact⟨.skip,undef,w',g',by simp[h1],.inr ⟨rfl,rfl⟩,h2,h3,fM,h4⟩
    | some i=>simp only[hr,Option.some.injEq,Prod.mk.injEq]at he;obtain⟨rfl,rfl⟩:=he;exact⟨.skip,undef,w',g',by simp[h1],.inr ⟨rfl,rfl⟩,h2,h3,fM,h4⟩
 ·cases he
theorem D8 {ty:TypeId}{m k:X}{vm vk:Value}{e:Nat}{kt:KT}{z:T}{ok:Bool}(hc:uu P ty m k=some (e,kt,z))(h:SR w0 g H w)(hm:VR g w (m.ev R) vm)(hk:VR g w (k.ev R) vk)(he:av R H (.oU kt z ok m k)=some (t,H')) :
  bp P w0 g H w (Instr.lookup ty vm vk ok) t H':=by
 obtain⟨key,ei,zv,hu,hi,hz,oW,l9⟩:=vH hc
 simp only[av]at he
 split at he
 ·rename_i ui
  cases iS:eJ H (m.ev R)with
  | none=>simp[iS]at he
  | some es =>
   simp only[iS]at he
   cases hr:cw (k.ev R) es with
   | none=>simp[hr]at he
   | some r =>
    cases r with
    | none =>
     simp only[hr,Option.some.injEq,Prod.mk.injEq]at he
     obtain⟨rfl,rfl⟩:=he
     exact vz hu hi hz oW l9 h hm hk ui iS hr rfl
    | some i =>
     simp only[hr]at he
     cases hx:es[i]? with
     | none=>simp[hx]at he
     | some x =>
      simp only[hx,Option.some.injEq,Prod.mk.injEq]at he
      obtain⟨rfl,rfl⟩:=he
      exact vz hu hi hz oW l9 h hm hk ui iS hr (by simp[hx])
 ·cases he
theorem xk {ty:TypeId}{ps:List (Nat×X)}{pv:List (Nat×Value)}{b:Bo}(hc:mm P ty ps=some b)(h:SR w0 g H w)(hv:PV g w R ps pv)(he:av R H b=some (t,H')):bp P w0 g H w (Instr.build ty pv.toArray) t H':=by
 unfold mm at hc
 cases hu:P.underlying ty with
 | none=>simp[hu]at hc
 | some d =>
  cases hz:zeroOf P ty with
  | none=>cases d<;>simp[hu,hz]at hc
  | some z =>
   cases d<;>simp only[hu,hz]at hc<;>(try (cases hc;done))
   rename_i fs
   split at hc
   ·rename_i a9
    simp only[Bool.and_eq_true]at a9
    simp only[Option.some.injEq]at hc;subst hc
    obtain⟨i,zv,h1,h2,h3⟩:=eu hz
    simp only[av]at he
    split at he
    ·rename_i l hl
     simp only[Option.map_eq_some_iff,Prod.mk.injEq]at he
     obtain⟨cs,h4,rfl,rfl⟩:=he
     refine xb hu h1 h2 h3 (fun f hf=>?_) (fun p hp=>?_) h hv hl h4
     ·have:=a9.1
      simp only[sm,List.all_eq_true]at this
      exact Option.isSome_iff_exists.1 (this f hf)
     ·have:=a9.2
      simp only[List.all_eq_true,decide_eq_true_eq]at this
      exact this p hp
    ·cases he
   ·cases hc
theorem D9 {ty:TypeId}{n:Nat}{ps:List (Nat×X)}{pv:List (Nat×Value)}{b:Bo}{mu:Bool}(hc:xh P mu ty n ps=some b)(h:SR w0 g H w)(hv:PV g w R ps pv)(he:av R H b=some (t,H')):bp P w0 g H w (Instr.buildSlice ty n pv.toArray) t H':=by
 unfold xh at hc
 cases hu:P.underlying ty with
 | none=>simp[hu]at hc
 | some d =>
  cases d<;>simp only[hu]at hc<;>(try (cases hc;done))
  rename_i e
  cases hi:P.info? e with
  | none=>simp[hi]at hc
  | some ei =>
   cases hz:zeroOf P e with
   | none=>simp[hi,hz]at hc
   | some z =>
    simp only[hi,hz]at hc
    split at hc
    ·rename_i a9
     simp only[Bool.and_eq_true,beq_iff_eq,decide_eq_true_eq]at a9
     simp at hc;subst hc
     obtain⟨i,zv,h1,h2,h3⟩:=eu hz
     rw[hi]at h1;cases h1
     cases mu with
     | false =>
      simp only[Bool.false_eq_true,if_false,av,Option.map_eq_some_iff,Prod.mk.injEq]at he
      obtain⟨fs,h4,rfl,rfl⟩:=he
      exact DP hu hi h2 h3 a9.1 a9.2 h hv h4
     | true =>
      simp only[if_true,av,Option.bind_eq_some_iff]at he
      obtain⟨fs,h4,he⟩:=he
      split at he
      ·simp only[Option.some.injEq,Prod.mk.injEq]at he
       obtain⟨rfl,rfl⟩:=he
       exact DU hu hi h2 h3 a9.1 a9.2 h hv h4
      ·cases he
    ·cases hc
theorem Ea {ty:TypeId}{mu:Bool}{l c:X}{vl vc:Value}{b:Bo}(hc:xi P mu ty l c=some b)(h:SR w0 g H w)(hl:VR g w (l.ev R) vl)(FJ:VR g w (c.ev R) vc)(he:av R H b=some (t,H')):bp P w0 g H w (Instr.makeSlice ty vl vc) t H':=by
 unfold xi at hc
 cases hu:P.underlying ty with
 | none=>simp[hu]at hc
 | some d =>
  cases d<;>simp only[hu]at hc<;>(try (cases hc;done))
  rename_i e
  cases hi:P.info? e with
  | none=>simp[hi]at hc
  | some ei =>
   cases hz:zeroOf P e with
   | none=>simp[hi,hz]at hc
   | some z =>
    simp only[hi,hz]at hc
    split at hc
    ·rename_i a9
     simp only[Bool.and_eq_true,beq_iff_eq,bne_iff_ne]at a9
     simp at hc;subst hc
     obtain⟨i,zv,h1,h2,h3⟩:=eu hz
     rw[hi]at h1;cases h1
     simp only[av]at he
     cases Nz:bd (l.ev R)with
     | none=>simp[Nz]at he
     | some nl =>
      cases Ox:bd (c.ev R)with
      | none=>simp[Nz,Ox]at he
      | some nc =>
       simp only[Nz,Ox]at he
       split at he
       ·rename_i fv
        refine DQ (mu:=mu) hu hi h2 h3 a9.1 a9.2 h hl FJ Nz Ox fv.1 fv.2.1 fv.2.2 ?_
        cases mu with
        | true=>simpa using he
        | false =>
         simp only[Bool.false_eq_true,if_false]at he ⊢
         split at he
         ·rename_i e0;rw[if_pos e0];simpa using he
         ·rename_i e0;rw[if_neg e0];simpa using he
       ·cases he
    ·cases hc
theorem RV.get {xs:List Operand}(h:RV g w R ρ xs){x:Operand}{y:X}(hx:x∈xs)(hc:aH x=some y):VR g w (y.ev R) (ρ x):=h x hx y hc
theorem HB {mu:Bool}{o:Oper}{b:Bo}(hρ:∀f:FuncId,ρ (.func f)=.func (.func f) #[] #[])(hc:a7 P mu o.op=some b)(h:SR w0 g H w)(hv:RV g w R ρ o.op.operands.toList)(he:av R H b=some (t,H')):C0 P w0 g H w (execOp ρ o) t H':=by
 obtain⟨dst,op,ty,pos,after,guard⟩:=o
 cases op<;>simp only[a7]at hc<;>(try (cases hc;done))<;>simp only[Op.operands]at hv
 case move x =>
  simp only[Option.map_eq_some_iff]at hc
  obtain⟨y,h1,rfl⟩:=hc
  simp only[av,Option.some.injEq,Prod.mk.injEq]at he
  obtain⟨rfl,rfl⟩:=he
  exact⟨_,_,w,g,rfl,.inl rfl,.refl _ _,h,hv.get (by simp) h1,.refl _ _⟩
 case assign x =>
  simp only[Option.map_eq_some_iff]at hc
  obtain⟨y,h1,rfl⟩:=hc
  simp only[av,Option.some.injEq,Prod.mk.injEq]at he
  obtain⟨rfl,rfl⟩:=he
  exact⟨_,_,w,g,rfl,.inl rfl,.refl _ _,h,hv.get (by simp) h1,.refl _ _⟩
 case pick c x y =>
  cases h1:aH c with
  | none=>simp[h1]at hc
  | some c' =>
   cases h2:aH x with
   | none=>simp[h1,h2]at hc
   | some x' =>
    cases h3:aH y with
    | none=>simp[h1,h2,h3]at hc
    | some y' =>
     simp only[h1,h2,h3,Option.some.injEq]at hc
     subst hc
     have vc:=hv.get (by simp) h1
     have vx:=hv.get (by simp) h2
     have vy:=hv.get (by simp) h3
     simp only[av]at he
     generalize c'.ev R=tc at vc he
     cases tc<;>(try simp only[reduceCtorEq]at he)
     simp only[Option.some.injEq,Prod.mk.injEq]at he
     obtain⟨rfl,rfl⟩:=he
     obtain⟨v,w',g',k1,k2⟩:=yJ (P:=P) h vc vx vy
     refine⟨.value v,v,w',g',?_,.inl rfl,k2⟩
     simp only[execOp,Sem.run_bind,Sem.run_pure]at k1 ⊢
     generalize (asBool (ρ c)).run P w=r at k1 ⊢
     cases r<;>simp_all
 case alloc pN =>
  simp only[Option.map_eq_some_iff]at hc
  obtain⟨z,h1,rfl⟩:=hc
  obtain⟨i,zv,h2,h3,h4⟩:=eu h1
  simp only[av,Option.some.injEq,Prod.mk.injEq]at he
  obtain⟨rfl,rfl⟩:=he
  exact(xa h2 h3 h4 h).kE
 case box pN x =>
  simp only[Option.map_eq_some_iff]at hc
  obtain⟨y,h1,rfl⟩:=hc
  simp only[av,Option.map_eq_some_iff,Prod.mk.injEq]at he
  obtain⟨cs,h2,rfl,rfl⟩:=he
  exact(DF h (hv.get (by simp) h1) h2).kE
 case build pN ps =>
  simp only[Option.bind_eq_some_iff]at hc
  obtain⟨qs,h1,h2⟩:=hc
  have hp:=mo (ρ:=ρ) _ _ h1 (by simpa using hv)
  have:=(xk h2 h hp he).kE
  have e:(ps.map fun x=>(x.1,ρ x.2))=(ps.toList.map fun p=>(p.1,ρ p.2)).toArray:=by apply Array.ext';simp
  simp only[execOp]
  rw[e];exact this
 case buildSlice pN n ps =>
  simp only[Option.bind_eq_some_iff]at hc
  obtain⟨qs,h1,h2⟩:=hc
  have hp:=mo (ρ:=ρ) _ _ h1 (by simpa using hv)
  have:=(D9 h2 h hp he).kE
  have e:(ps.map fun x=>(x.1,ρ x.2))=(ps.toList.map fun p=>(p.1,ρ p.2)).toArray:=by apply Array.ext';simp
  simp only[execOp]
  rw[e];exact this
 case insert pN m k v =>
  cases h1:aH m with
  | none=>simp[h1]at hc
  | some m' =>
   cases h2:aH k with
   | none=>simp[h1,h2]at hc
   | some k' =>
    cases h3:aH v with
    | none=>simp[h1,h2,h3]at hc
    | some v' =>
     simp only[h1,h2,h3,Option.map_eq_some_iff]at hc
     obtain⟨⟨e,kt,z⟩,h4,rfl⟩:=hc
     exact vI h4 h (hv.get (by simp) h1) (hv.get (by simp) h2) (hv.get (by simp) h3) he
 case mapUpdate pN m k v =>
  cases h1:aH m with
  | none=>simp[h1]at hc
  | some m' =>
   cases h2:aH k with
   | none=>simp[h1,h2]at hc
   | some k' =>
    cases h3:aH v with
    | none=>simp[h1,h2,h3]at hc
    | some v' =>
     simp only[h1,h2,h3,Option.map_eq_some_iff]at hc
     obtain⟨⟨e,kt,z⟩,h4,rfl⟩:=hc
     exact vI h4 h (hv.get (by simp) h1) (hv.get (by simp) h2) (hv.get (by simp) h3) he
 case load pN x =>
  simp only[Option.bind_eq_some_iff]at hc
  obtain⟨y,h1,h2⟩:=hc
  exact za h2 h (hv.get (by simp) h1) he
 case store pN a v =>
  cases h1:P.info? pN with
  | none=>simp[h1]at hc
  | some i =>
   cases h2:aH a with
   | none=>simp[h1,h2]at hc
   | some a' =>
    cases h3:aH v with
    | none=>simp[h1,h2,h3]at hc
    | some v' =>
     simp only[h1,h2,h3,Option.some.injEq]at hc
     subst hc
     simp only[av]at he
     cases h4:(v'.ev R).cells? with
     | none=>simp[h4]at he
     | some vs =>
      simp only[h4]at he
      split at he
      ·rename_i hn
       simp only[Option.map_eq_some_iff,Prod.mk.injEq]at he
       obtain⟨H1,h5,rfl,rfl⟩:=he
       obtain⟨w',g',k1,k2,k3,k4⟩:=Hi (P:=P) h1 h (hv.get (by simp) h2) (hv.get (by simp) h3) h4 hn h5
       exact⟨.skip,undef,w',g',by simp[execOp,k1],.inr ⟨rfl,rfl⟩,k2,k3,fM,k4⟩
      ·cases he
 case nilCheck x =>
  simp only[Option.map_eq_some_iff]at hc
  obtain⟨y,h1,rfl⟩:=hc
  have vx:=hv.get (by simp) h1
  simp only[av]at he
  have key:t=y.ev R∧H'=H∧∃v,(execOp ρ ⟨dst,.nilCheck x,ty,pos,after,guard⟩).run P w=.ok (.value v) w∧v=ρ x:=by
   simp only[execOp]
   generalize y.ev R=tx at vx he
   generalize ρ x=vv at vx
   cases vx<;>simp only[reduceCtorEq,Option.some.injEq,Prod.mk.injEq]at he<;>obtain⟨rfl,rfl⟩:=he<;>exact⟨rfl,rfl,_,rfl,rfl⟩
  obtain⟨rfl,rfl,v,k1,rfl⟩:=key
  exact⟨_,_,w,g,k1,.inl rfl,.refl _ _,h,vx,.refl _ _⟩
 case binOp op pN x y yt =>
  cases h1:aH x with
  | none=>simp[h1]at hc
  | some x' =>
   cases h2:aH y with
   | none=>simp[h1,h2]at hc
   | some y' =>
    simp only[h1,h2]at hc
    exact D3 hc h (hv.get (by simp) h1) (hv.get (by simp) h2) he
 case unOp op pN x =>
  simp only[Option.map_eq_some_iff]at hc
  obtain⟨y,h1,rfl⟩:=hc
  simp only[av,Option.map_eq_some_iff,Prod.mk.injEq]at he
  obtain⟨t',h2,rfl,rfl⟩:=he
  exact(G8 h (hv.get (by simp) h1) h2).kE
 case convert s d x =>
  simp only[Option.bind_eq_some_iff]at hc
  obtain⟨y,h1,h2⟩:=hc
  exact ze h2 h (hv.get (by simp) h1) he
 case makeFunc fn first ja =>
  cases fn<;>simp only[a7]at hc<;>(try (cases hc;done))
  rename_i f
  split at hc
  ·rename_i h0
   simp only[Option.map_eq_some_iff]at hc
   obtain⟨ys,h1,rfl⟩:=hc
   have:first=#[]:=Array.eq_empty_of_size_eq_zero h0
   subst this
   simp only[av,Option.some.injEq,Prod.mk.injEq]at he
   obtain⟨rfl,rfl⟩:=he
   have l3:=et (ρ:=ρ) _ _ h1 (fun x hx=>hv x (by simpa using hx))
   have:=(DR (P:=P) (f:=f) h l3).kE
   have e:ja.map ρ=(ja.toList.map ρ).toArray:=by apply Array.ext';simp
   have e0:(#[]:Array Operand).map ρ=#[]:=by simp
   simp only[execOp]
   rw[e,e0];exact this
  ·cases hc
 case range pN m =>
  cases hu:P.underlying pN with
  | none=>simp[hu]at hc
  | some d =>
   cases d<;>simp only[hu]at hc<;>(try (cases hc;done))
   simp only[Option.map_eq_some_iff]at hc
   obtain⟨y,h1,rfl⟩:=hc
   have vm:=hv.get (by simp) h1
   simp only[av]at he
   generalize y.ev R=tm at vm he
   cases tm<;>(try (simp only[reduceCtorEq]at he;done))
   rename_i bb
   simp only[Option.map_eq_some_iff,Prod.mk.injEq]at he
   obtain⟨es,h2,rfl,rfl⟩:=he
   exact(DZ hu h vm h2).kE
 case next it str =>
  cases str<;>simp only[a7]at hc<;>(try (cases hc;done))
  simp only[Option.map_eq_some_iff]at hc
  obtain⟨y,h1,rfl⟩:=hc
  simp[av]at he
 case entry it =>
  simp only[Option.map_eq_some_iff]at hc
  obtain⟨y,h1,rfl⟩:=hc
  have vm:=hv.get (by simp) h1
  simp only[av]at he
  generalize y.ev R=tm at vm he
  cases tm<;>(try (simp only[reduceCtorEq]at he;done))
  rename_i bi off
  cases off with
  | succ _=>simp at he
  | zero =>
   simp only at he
   cases hi:H[bi]? with
   | none=>simp[hi]at he
   | some yi =>
    cases yi<;>simp only[hi]at he<;>(try (cases he;done))
    rename_i bb
    cases hb:H[bb]? with
    | none=>simp[hb]at he
    | some yb =>
     cases yb<;>simp only[hb]at he<;>(try (cases he;done))
     rename_i es ix FC cur
     cases cur with
     | none=>simp at he
     | some c =>
      simp only at he
      split at he
      ·rename_i e;subst e
       simp only[Option.map_eq_some_iff,Prod.mk.injEq]at he
       obtain⟨e,h2,rfl,rfl⟩:=he
       exact(D1 h vm hb h2).kE
      ·cases he
 case makeMap pN r =>
  cases r with
  | some _=>simp[a7]at hc
  | none =>
   simp only[a7,Option.some.injEq]at hc
   subst hc
   simp only[av,Option.some.injEq,Prod.mk.injEq]at he
   obtain⟨rfl,rfl⟩:=he
   exact(DG h).kE
 case makeSlice pN l c =>
  cases h1:aH l with
  | none=>simp[h1]at hc
  | some l' =>
   cases h2:aH c with
   | none=>simp[h1,h2]at hc
   | some c' =>
    simp only[h1,h2]at hc
    exact(Ea hc h (hv.get (by simp) h1) (hv.get (by simp) h2) he).kE
 case slice pN x lo hi mx =>
  cases h1:aH x with
  | none=>simp[h1]at hc
  | some x' =>
   cases h2:ir lo with
   | none=>simp[h1,h2]at hc
   | some VH =>
    cases h3:ir hi with
    | none=>simp[h1,h2,h3]at hc
    | some lY =>
     cases h4:ir mx with
     | none=>simp[h1,h2,h3,h4]at hc
     | some VI =>
      simp only[h1,h2,h3,h4]at hc
      split at hc
      ·exact D5 hc h (hv.get (by simp) h1) (fD h2 (fun z hz=>hv z (by simp;simp at hz;simp[hz]))) (fD h3 (fun z hz=>hv z (by simp;simp at hz;simp[hz]))) (fD h4 (fun z hz=>hv z (by simp;simp at hz;simp[hz]))) he
      ·exact xj hc h (hv.get (by simp) h1) (fD h2 (fun z hz=>hv z (by simp;simp at hz;simp[hz]))) (fD h3 (fun z hz=>hv z (by simp;simp at hz;simp[hz]))) (fD h4 (fun z hz=>hv z (by simp;simp at hz;simp[hz]))) he
 case fieldAddr pN x f =>
  simp only[Option.bind_eq_some_iff]at hc
  obtain⟨y,h1,h2⟩:=hc
  exact(pL h2 h (hv.get (by simp) h1) he).kE
 case field pN x f =>
  simp only[Option.bind_eq_some_iff]at hc
  obtain⟨y,h1,h2⟩:=hc
  exact(pL h2 h (hv.get (by simp) h1) he).kE
 case indexAddr pN x i =>
  cases h1:aH x with
  | none=>simp[h1]at hc
  | some x' =>
   cases h2:aH i with
   | none=>simp[h1,h2]at hc
   | some i' =>
    simp only[h1,h2]at hc
    exact(vG hc h (hv.get (by simp) h1) (hv.get (by simp) h2) he).kE
 case index pN x i =>
  cases h1:aH x with
  | none=>simp[h1]at hc
  | some x' =>
   cases h2:aH i with
   | none=>simp[h1,h2]at hc
   | some i' =>
    simp only[h1,h2]at hc
    exact(vG hc h (hv.get (by simp) h1) (hv.get (by simp) h2) he).kE
 case lookup pN m k ok =>
  cases h1:aH m with
  | none=>simp[h1]at hc
  | some m' =>
   cases h2:aH k with
   | none=>simp[h1,h2]at hc
   | some k' =>
    simp only[h1,h2,Option.map_eq_some_iff]at hc
    obtain⟨⟨e,kt,z⟩,h4,rfl⟩:=hc
    exact(D8 h4 h (hv.get (by simp) h1) (hv.get (by simp) h2) he).kE
 case extract x i =>
  simp only[Option.map_eq_some_iff]at hc
  obtain⟨y,h1,rfl⟩:=hc
  have vx:=hv.get (by simp) h1
  simp only[av]at he
  generalize y.ev R=tx at vx he
  cases tx<;>(try simp only[reduceCtorEq]at he)
  simp only[Option.map_eq_some_iff,Prod.mk.injEq]at he
  obtain⟨t',h2,rfl,rfl⟩:=he
  exact(DD h vx h2).kE
 case call c =>
  obtain⟨callee,args,gw⟩:=c
  cases callee
  case value cv =>
   cases cv<;>simp only[a7]at hc<;>(try (cases hc;done))
   rename_i f
   split at hc
   ·rename_i n x y tU h1
    simp only[Option.some.injEq]at hc;subst hc
    have l3:=et (ρ:=ρ) _ _ h1 (fun x hx=>hv x (by simp[Call.operands];exact .inr (by simpa using hx)))
    simp only[av]at he
    have hd:=D7 tU h l3 he
    simpa[execOp,resolve,hρ,Deferred.ofValue,invoke]using hd
   ·cases hc
  all_goals simp only[a7]at hc<;>(try (cases hc;done))
  rename_i bi
  simp only[Option.bind_eq_some_iff]at hc
  obtain⟨as,h1,h2⟩:=hc
  have l3:=et (ρ:=ρ) _ _ h1 (fun x hx=>hv x (by simpa[Call.operands]using hx))
  have e:args.map ρ=(args.toList.map ρ).toArray:=by apply Array.ext';simp
  have e2:gw=gw.toList.toArray:=by simp
  have:=sn (rt:=ty) (cs:=args.map fun | .const _=>true|_=>false) h2 h l3 he
  simp only[execOp,resolve,pure_bind,invoke]
  rw[e,e2]
  exact this
end
section
variable {P:Program} {w0 w:World} {g:Ctx} {H:ae}
theorem SR.qK {b r o q:Nat}{x x':Obj}{y y':B}(h:SR w0 g H w)(hb:H[b]?=some y)(hφ:g.φ b=some (r,o,q))(h1:g.κ r 0=.mut b)(hr:w.heap[r]?=some x)(hs:dK x=true)(dW:dK x'=true)
  (l9:∀w',Le g w g w'→w'.heap[r]?=some x'→vn g w' b y') :
  Le g w g (w.putObj r x')∧SR w0 g (H.set b y') (w.putObj r x')∧Fr g H g (H.set b y'):=by
 have iW:b<H.length:=(List.getElem?_eq_some_iff.1 hb).1
 have tr:Tr w (w.putObj r x') ff (fun r'=>r'=r):=Tr.uj w r hs dW hr
 have le:Le g w g (w.putObj r x'):=Le.fJ tr (fun _ _ h=>h) (fun _ _ h=>h) (fun _ _ _ h=>h) (fun _ _ hs=>hs.elim)
 refine⟨le,h.step (fun b'=>b'=b) tr le (fun _ _ hs=>hs.elim) (fun r' hm=>⟨b,by rw[hm];exact h1,rfl⟩) (fun r' j jE=>h.fresh r' j (by simpa[World.putObj]using jE)) (fun b' x hx=>by rw[List.length_set];exact h.nH b' x hx)
  (fun t e x hx=>by rw[List.length_set];exact h.ft t e x hx) (fun _ _ _=>rfl) (fun _ _ _ _=>⟨id,id⟩) (fun _ _ _ _=>rfl) (fun b' x hx=>?_),by simp,fun b' x a _ d=>⟨da a (by rintro rfl;rw[hφ]at d;cases d),d⟩⟩
 rcases cB iW hx with⟨rfl,rfl⟩|⟨aY,ie⟩
 ·exact .inr (l9 _ le (World.putObj_heap_same (Array.getElem?_eq_some_iff.1 hr).1))
 ·exact .inl ⟨aY,ie⟩
theorem SR.zf {x:Obj}{y:B}(h:SR w0 g H w)(Oo:dK x=true)
  (l9:∀g' w',Le g w g' w'→g'.κ w.heap.size 0=.mut H.length→g'.φ H.length=some (w.heap.size,0,0)→w'.heap[w.heap.size]?=some x→vn g' w' H.length y) :
  ∃g',Le g w g' (w.alloc x)∧SR w0 g' (H++[y]) (w.alloc x)∧Fr g H g' (H++[y])∧g'.φ H.length=some (w.heap.size,0,0):=by
 have sd:=Tr.alloc w x (.inl Oo)
 have aY:∀r j ow,g.κ r j=ow→ow≠.free→r≠w.heap.size:=by rintro r j ow e hn rfl;exact hn (e▸h.fresh _ j (Nat.le_refl _))
 have Oq:=h.DE (b:=H.length) (Nat.le_refl _)
 have le:Le g w ((g.row w.heap.size fun _=>.mut H.length).at H.length (w.heap.size,0,0)) (w.alloc x):=Le.fJ sd
  (fun b' x hx=>by simp only[Ctx.at,Ctx.row];split;rename_i e;subst e;rw[Oq]at hx;simp at hx;exact hx)
  (fun r o hk=>by simp only[Ctx.row,Ctx.at];rw[if_neg (aY r o _ hk (by simp))];exact hk) (fun _ _ _ h=>h) (fun _ _ hs=>hs.elim)
 refine⟨_,le,?_,⟨by simp,fun b x a _ d=>⟨fu a,?_⟩⟩,by simp[Ctx.at]⟩
 ·refine h.step (fun b'=>b'=H.length) sd le (fun _ _ hs=>hs.elim) (fun _ hm=>hm.elim) (fun r o hr=>?_) (fun b' x hx=>?_) (fun t e x hx=>by have:=h.ft t e x hx;simp;omega) (fun b' _ eR=>?_) (fun r j b' eR=>?_) (fun _ _ _ _=>rfl) (fun b' x hx=>?_)
  ·simp at hr
   simp only[Ctx.row,Ctx.at];rw[if_neg (by omega)];exact h.fresh r o (by omega)
  ·simp only[Ctx.at,Ctx.row]at hx
   split at hx
   ·rename_i e;subst e;simp
   ·have:=h.nH b' x hx;simp;omega
  ·simp only[Ctx.at,Ctx.row];rw[if_neg eR]
  ·constructor<;>intro e<;>simp only[Ctx.row,Ctx.at]<;>rw[if_neg (aY r j _ e (by simp))]<;>exact e
  ·by_cases e:b'=H.length
   ·subst e
    rw[dm]at hx;cases hx
    exact .inr (l9 _ _ le (by simp[Ctx.row,Ctx.at]) (by simp[Ctx.at]) (World.alloc_heap_new w _))
   ·exact .inl ⟨e,bO e hx⟩
 ·have:=(List.getElem?_eq_some_iff.1 a).1
  simp only[Ctx.at,Ctx.row];rw[if_neg (by omega)];exact d
theorem SR.freeze {b:Nat}{cs:List T}(h:SR w0 g H w)(hb:H[b]?=some (.cells cs))(hφ:∃x,g.φ b=some x) :
  ∃g',Le g w g' w∧SR w0 g' (H.set b .dead) w∧Fr g H g' (H.set b .dead)∧∀t v,VR g w t v→VR g' w (rS b cs t) v:=by
 let g':Ctx:={ g with κ:=fun r o=>if g.κ r o=.mut b then .hC else g.κ r o }
 have le:Le g w g' w:=⟨fun _ _ h=>h,fun r o e=>by simp only[g'];rw[e];simp,fun _ _ _ h=>h,fun _ _ _ _ h=>h,rfl⟩
 have iW:b<H.length:=(List.getElem?_eq_some_iff.1 hb).1
 have tr:Tr w w (fun _ _=>False) (fun _=>False):=⟨Nat.le_refl _,fun _ _ _ _=>rfl,fun _ _ _=>rfl,fun _ _ _ h=>h,fun _ _ _ _ h=>h,fun _ _ _ _=>rfl,fun r j hr=>bL hr,rfl,rfl⟩
 have sr:SR w0 g' (H.set b .dead) w:=by
  refine h.step (fun b'=>b'=b) tr le (fun _ _ h=>h.elim) (fun _ h=>h.elim) (fun r o hr=>?_) (fun b' x hx=>?_) (fun t e x hx=>?_) (fun _ _ _=>rfl) (fun r j b' aY=>⟨fun e=>?_,fun e=>?_⟩) (fun _ _ _ _=>rfl) (fun b' x hx=>?_)
  ·simp only[g'];rw[h.fresh r o hr];simp
  ·rw[List.length_set];exact h.nH b' x hx
  ·rw[List.length_set];exact h.ft t e x hx
  ·simp only[g'];rw[e,if_neg (by simpa using aY)]
  ·simp only[g'];rw[e,if_neg (by simp)]
  ·rcases cB iW hx with⟨rfl,rfl⟩|⟨aY,ie⟩
   ·exact .inr trivial
   ·exact .inl ⟨aY,ie⟩
 have one:∀t v,VR g w t v→VR g' w (yv b cs t) v:=by
  intro t v hv
  cases t with
  | aB b' off len n =>
   simp only[yv]
   split
   ·rename_i hc
    obtain⟨rfl,hle⟩:=hc
    cases hv with
    | @aB _ _ _ _ r o q cap hp hc hq =>
     obtain⟨c1,c2,c3⟩:=h.gF _ _ hb r o q hp
     have hlen:(eY cs off len n).length=len:=by simp[eY]
     have Oy:∀(i j:Nat) (c:List T) (t:T),(eY cs off len n)[i]?=some c→c[j]?=some t→j<n∧i<len∧cs[off+i*n+j]?=some t:=by
      intro i j c t hi hj
      have lB:i<len:=by have:=(List.getElem?_eq_some_iff.1 hi).1;rw[hlen]at this;exact this
      simp only[eY,List.getElem?_map,List.getElem?_range lB,Option.map_some,Option.some.injEq]at hi
      subst hi
      rw[List.getElem?_take]at hj
      split at hj
      ·rename_i ye
       rw[List.getElem?_drop]at hj
       exact⟨ye,lB,hj⟩
      ·cases hj
     have key:∀(i j:Nat) (c:List T) (t:T),(eY cs off len n)[i]?=some c→c[j]?=some t→t.one=true∧∃v,w.cell? ⟨r,o+off+i*n+j,none⟩=some v∧VR g w t v∧g.κ r (o+off+i*n+j)=.mut b':=by
      intro i j c t hi hj
      obtain⟨h1,h2,h3⟩:=Oy i j c t hi hj
      obtain⟨k1,v,k2,k3⟩:=c3 _ _ h3
      have kx:off+i*n+j<cs.length:=(List.getElem?_eq_some_iff.1 h3).1
      refine⟨k1,v,?_,k3,?_⟩
      ·rw[show o+off+i*n+j=o+(off+i*n+j) by omega];exact k2
      ·exact(c2 (o+off+i*n+j) (by omega) (by omega)).1
     have:=VR.sl (g:=g') (w:=w) (k:=.arg) (es:=eY cs off len n) (r:=r) (o:=o+off) (cap:=cap) (n:=n) (fun i j=>(w.cell? ⟨r,o+off+i*n+j,none⟩).getD undef) trivial (by rw[hlen];exact hc)
      (fun c mc=>by
       obtain⟨i,hi,rfl⟩:=List.mem_map.1 mc
       have hi:=List.mem_range.1 hi
       have:i*n+n≤len*n:=by rw[←Nat.succ_mul];exact Nat.mul_le_mul_right n hi
       rw[List.length_take,List.length_drop];omega)
      (fun i j c t hi hj=>by
       obtain⟨k1,v,k2,_,k4⟩:=key i j c t hi hj
       refine⟨k1,?_,by rw[k2];rfl⟩
       simp only[g'];rw[if_pos k4])
      (fun i j c t hi hj=>by
       obtain⟨_,v,k2,k3,_⟩:=key i j c t hi hj
       rw[k2];exact k3.mono le)
     rw[hlen]at this
     exact this
   ·exact hv.mono le
  | _=>exact hv.mono le
 refine⟨g',le,sr,⟨by simp,fun b' y a _ d=>⟨da a (by rintro rfl;obtain⟨x,hx⟩:=hφ;rw[hx]at d;cases d),d⟩⟩,fun t v hv=>?_⟩
 cases t with
 | bC vs =>
  cases hv with
  | bC hl h2 =>
   refine .bC (by simpa using hl) fun i t v hi xl=>?_
   rw[List.getElem?_map,Option.map_eq_some_iff]at hi
   obtain⟨t',qL,rfl⟩:=hi
   exact one _ _ (h2 i t' v qL xl)
 | _=>exact one _ _ hv
end
section
variable {w0 w:World} {g:Ctx} {H:ae}
theorem SR.Eb {b:Nat}{cs:List T}(h:SR w0 g H w)(hb:H[b]?=some (.cells cs))(hφ:∃x,g.φ b=some x) :
  ∃g',Le g w g' w∧SR w0 g' (H.set b (.fz cs)) w∧Fr g H g' (H.set b (.fz cs)):=by
 let g':Ctx:={ g with κ:=fun r o=>if g.κ r o=.mut b then .hC else g.κ r o }
 have le:Le g w g' w:=⟨fun _ _ h=>h,fun r o e=>by simp only[g'];rw[e];simp,fun _ _ _ h=>h,fun _ _ _ _ h=>h,rfl⟩
 have iW:b<H.length:=(List.getElem?_eq_some_iff.1 hb).1
 have tr:Tr w w (fun _ _=>False) (fun _=>False):=⟨Nat.le_refl _,fun _ _ _ _=>rfl,fun _ _ _=>rfl,fun _ _ _ h=>h,fun _ _ _ _ h=>h,fun _ _ _ _=>rfl,fun r j hr=>bL hr,rfl,rfl⟩
 have sr:SR w0 g' (H.set b (.fz cs)) w:=by
  refine h.step (fun b'=>b'=b) tr le (fun _ _ h=>h.elim) (fun _ h=>h.elim) (fun r o hr=>?_) (fun b' x hx=>?_) (fun t e x hx=>?_) (fun _ _ _=>rfl) (fun r j b' aY=>⟨fun e=>?_,fun e=>?_⟩) (fun _ _ _ _=>rfl) (fun b' x hx=>?_)
  ·simp only[g'];rw[h.fresh r o hr];simp
  ·rw[List.length_set];exact h.nH b' x hx
  ·rw[List.length_set];exact h.ft t e x hx
  ·simp only[g'];rw[e,if_neg (by simpa using aY)]
  ·simp only[g'];rw[e,if_neg (by simp)]
  ·rcases cB iW hx with⟨rfl,rfl⟩|⟨aY,ie⟩
   ·refine .inr fun r o q hq=>?_
    obtain⟨c1,c2,c3⟩:=h.gF _ _ hb r o q hq
    refine⟨c1,fun i t hi=>?_⟩
    have lB:i<cs.length:=(List.getElem?_eq_some_iff.1 hi).1
    obtain⟨k1,v,k2,k3⟩:=c3 i t hi
    refine⟨k1,v,⟨?_,k2⟩,k3.mono le⟩
    simp only[g'];rw[if_pos (c2 (o+i) (by omega) (by omega)).1]
   ·exact .inl ⟨aY,ie⟩
 exact⟨g',le,sr,⟨by simp,fun b' y a _ d=>⟨da a (by rintro rfl;obtain⟨x,hx⟩:=hφ;rw[hx]at d;cases d),d⟩⟩⟩
theorem lC (cs:List T)(off len n:Nat):(eY cs off len n).length=len:=by simp[eY]
theorem zg {cs:List T}{off len n i j:Nat}{c:List T}{t:T}(hi:(eY cs off len n)[i]?=some c)(hj:c[j]?=some t):j<n∧i<len∧cs[off+i*n+j]?=some t:=by
 have lB:i<len:=by have:=(List.getElem?_eq_some_iff.1 hi).1;rw[lC]at this;exact this
 simp only[eY,List.getElem?_map,List.getElem?_range lB,Option.map_some,Option.some.injEq]at hi
 subst hi
 rw[List.getElem?_take]at hj
 split at hj
 ·rename_i ye
  rw[List.getElem?_drop]at hj
  exact⟨ye,lB,hj⟩
 ·cases hj
theorem SR.Ec {b len n:Nat}{cs:List T}{v:Value}(h:SR w0 g H w)(hb:H[b]?=some (.cells cs))(hv:VR g w (.aB b 0 len n) v)(hlen:len*n=cs.length)(h0:0<len) :
  ∃g',Le g w g' w∧SR w0 g' (H.set b (.fz cs)++[.tok len]) w∧Fr g H g' (H.set b (.fz cs)++[.tok len])∧∀v,VR g w (.aB b 0 len n) v→VR g' w (.sl (.own H.length len) (eY cs 0 len n)) v:=by
 obtain⟨r,o,q,hφ⟩:∃r o q,g.φ b=some (r,o,q):=by cases hv with|aB hp=>exact⟨_,_,_,hp⟩
 obtain⟨c1,c2,c3⟩:=h.gF _ _ hb r o q hφ
 have iW:b<H.length:=(List.getElem?_eq_some_iff.1 hb).1
 let g':Ctx:={ g with κ:=fun r' o'=>if g.κ r' o'=.mut b then(if r'=r∧o+cs.length≤o'∧o'<q then .spare H.length else .hC)else g.κ r' o',π:=fun t e=>if t=H.length then(if e=len then some (r,o+cs.length,q)else none)else g.π t e }
 have Tf:∀e,g.π H.length e=none:=fun e=>by
  cases hp:g.π H.length e with
  | none=>rfl
  | some x=>exact absurd (h.ft _ _ _ hp) (Nat.lt_irrefl _)
 have le:Le g w g' w:=⟨fun _ _ h=>h,fun r o e=>by simp only[g'];rw[e];simp,fun t e x hx=>by
  simp only[g'];rw[if_neg (by rintro rfl;rw[Tf]at hx;cases hx)];exact hx,fun _ _ _ _ h=>h,rfl⟩
 have tr:Tr w w (fun _ _=>False) (fun _=>False):=⟨Nat.le_refl _,fun _ _ _ _=>rfl,fun _ _ _=>rfl,fun _ _ _ h=>h,fun _ _ _ _ h=>h,fun _ _ _ _=>rfl,fun r j hr=>bL hr,rfl,rfl⟩
 have hC:∀i,i<cs.length→g'.κ r (o+i)=.hC:=fun i hi=>by
  simp only[g'];rw[if_pos (c2 (o+i) (by omega) (by omega)).1,if_neg (by omega)]
 have sr:SR w0 g' (H.set b (.fz cs)++[.tok len]) w:=by
  refine h.step (fun b'=>b'=b∨b'=H.length) tr le (fun _ _ h=>h.elim) (fun _ h=>h.elim) (fun r o hr=>?_) (fun b' x hx=>?_) (fun t e x hx=>?_) (fun _ _ _=>rfl) (fun r j b' aY=>⟨fun e=>?_,fun e=>?_⟩) (fun t e _ ht=>?_) (fun b' x hx=>?_)
  ·simp only[g'];rw[h.fresh r o hr];simp
  ·have:=h.nH b' x hx;simp;omega
  ·simp only[g']at hx
   split at hx
   ·rename_i e;subst e;simp
   ·have:=h.ft t e x hx;simp;omega
  ·simp only[g'];rw[e,if_neg (by simpa using fun e=>aY (.inl e))]
  ·simp only[g'];rw[e,if_neg (by simp)]
  ·simp only[g'];rw[if_neg (fun e=>ht (.inr e))]
  ·by_cases e:b'=H.length
   ·subst e
    have:(H.set b (.fz cs)++[B.tok len])[H.length]?=some (.tok len):=by rw[show H.length=(H.set b (.fz cs)).length by simp];exact dm _ _
    rw[this]at hx;cases hx
    refine .inr ⟨r,o+cs.length,q,by simp[g'],c1,fun j a c=>⟨?_,(c2 j (by omega) c).2⟩,fun e' he=>?_⟩
    ·simp only[g',true_and];rw[if_pos (c2 j (by omega) c).1,if_pos ⟨a,c⟩]
    ·simp only[g',if_true];rw[if_neg (by omega)]
   ·have ie:(H.set b (.fz cs))[b']?=some x:=bO (by simpa using e) hx
    rcases cB iW ie with⟨rfl,rfl⟩|⟨aY,ie⟩
    ·refine .inr fun r' o' q' hq=>?_
     have e1:g.φ b'=some (r',o',q'):=hq
     rw[hφ]at e1;cases e1
     refine⟨c1,fun i t hi=>?_⟩
     have lB:i<cs.length:=(List.getElem?_eq_some_iff.1 hi).1
     obtain⟨k1,v,k2,k3⟩:=c3 i t hi
     exact⟨k1,v,⟨hC i lB,k2⟩,k3.mono le⟩
    ·exact .inl ⟨fun e'=>e'.elim aY e,ie⟩
 refine⟨g',le,sr,⟨by simp,fun b' y a _ d=>⟨fu (da a (by rintro rfl;rw[hφ]at d;cases d)),d⟩⟩,fun v hv=>?_⟩
 cases hv with
 | @aB _ _ _ _ r1 o1 q1 cap hp hc hq =>
  rw[hφ]at hp;cases hp
  have key:∀(i j:Nat) (c:List T) (t:T),(eY cs 0 len n)[i]?=some c→c[j]?=some t→t.one=true∧∃v,w.cell? ⟨r,o+i*n+j,none⟩=some v∧VR g w t v∧g'.κ r (o+i*n+j)=.hC:=by
   intro i j c t hi hj
   obtain⟨_,_,h3⟩:=zg hi hj
   obtain⟨k1,v,k2,k3⟩:=c3 _ _ h3
   have kx:0+i*n+j<cs.length:=(List.getElem?_eq_some_iff.1 h3).1
   refine⟨k1,v,?_,k3,?_⟩
   ·rw[show o+i*n+j=o+(0+i*n+j) by omega];exact k2
   ·rw[show o+i*n+j=o+(i*n+j) by omega];exact hC _ (by omega)
  have:=VR.sl (g:=g') (w:=w) (k:=.own H.length len) (es:=eY cs 0 len n) (r:=r) (o:=o) (cap:=cap) (n:=n) (fun i j=>(w.cell? ⟨r,o+i*n+j,none⟩).getD undef)
   (by
    rw[lC]
    refine⟨?_,h0⟩
    simp only[g']
    simp only[if_true]
    rw[hlen]
    have:o+cap*n=q:=by omega
    rw[this])
   (by rw[lC];exact hc)
   (fun c mc=>by
    obtain⟨i,hi,rfl⟩:=List.mem_map.1 mc
    have hi:=List.mem_range.1 hi
    have:i*n+n≤len*n:=by rw[←Nat.succ_mul];exact Nat.mul_le_mul_right n hi
    rw[List.length_take,List.length_drop];omega)
   (fun i j c t hi hj=>by
    obtain⟨k1,v,k2,_,k4⟩:=key i j c t hi hj
    exact⟨k1,k4,by rw[k2];rfl⟩)
   (fun i j c t hi hj=>by
    obtain⟨_,v,k2,k3,_⟩:=key i j c t hi hj
    rw[k2];exact k3.mono le)
  rw[lC]at this
  exact this
theorem Vw.ok {t t':T}(hv:Vw H t t')(h:SR w0 g H w):∀v,VR g w t v→VR g w t' v:=by
 induction hv with
 | refl t=>exact fun v hv=>hv
 | @ms b off len n cs es src hb hl hn hle h1 h2 ih =>
  intro v hv
  cases hv with
  | @aB _ _ _ _ r o q cap hp hc hq =>
   have hf:=h.gF _ _ hb r o q hp
   have key:∀(i j:Nat) (c:List T) (t':T),es[i]?=some c→c[j]?=some t'→t'.one=true∧∃v,ue g w r (o+off+i*n+j) v∧VR g w t' v:=by
    intro i j c t' hi hj
    obtain⟨k1,k2⟩:=h1 i j c t' hi hj
    obtain⟨_,v,k3,k4⟩:=hf.2 _ _ k1
    exact⟨k2,v,by rw[show o+off+i*n+j=o+(off+i*n+j) by omega];exact k3,ih i j c t' hi hj v k4⟩
   have:=VR.sl (g:=g) (w:=w) (k:=.arg) (es:=es) (r:=r) (o:=o+off) (cap:=cap) (n:=n) (fun i j=>(w.cell? ⟨r,o+off+i*n+j,none⟩).getD undef) trivial (by rw[hl];exact hc) hn
    (fun i j c t' hi hj=>by
     obtain⟨k1,v,k2,_⟩:=key i j c t' hi hj
     refine⟨k1,k2.1,?_⟩
     rw[k2.2];rfl)
    (fun i j c t' hi hj=>by
     obtain⟨_,v,k2,k3⟩:=key i j c t' hi hj
     rw[k2.2];exact k3)
   rw[hl]at this
   exact this
end
def cG (P:Program)(f:FuncId):Bool :=
 match P.funcs[f]? with
 | some fn=>fn.name != "runtime.NumGoroutine"&&fn.body.isSome
 | none=>false
def bg (P:Program)(mu:Bool):Op→Option FA
 | .call { callee:=.value (.func f),args,.. }=>if cG P f then(er args.toList).map (.call f)else match vF P f,er args.toList with
  | some n,some [x,y]=>some (.b (.Jd n x y))
  | _,_=>none
 | .call { callee:=.value (.tmp t),args,.. }=>(er args.toList).map (.cq (.r t))
 | op=>(a7 P mu op).map .b
def pO (ops:Array Oper):Option (Nat×Bool)→Option Gd
 | none=>some none
 | some (j,b)=>match (ops[j]?).bind (·.dst)with
  | some d=>some (some (d,b))
  | none=>none
def cy:X→List Nat
 | .r t=>[t]
 | .c _=>[]
def mr:Option X→List Nat
 | some x=>cy x
 | none=>[]
def vJ:Bo→List Nat
 | .aD x | .un _ x | .fB _ x | .yn x | .N4 x | .len _ x | .box x | .ld _ _ x | .gL _ x | .Nq _ _ _ x | .ext _ x | .wU x | .cap x | .JG x | .ni x | .JH x | .Je _ _ x=>cy x
 | .bin _ x y | .l7 _ _ x y | .beq _ x y | .eqs _ _ x y | .st _ x y | .cK _ x y | .Nr _ _ x y | .GZ x y | .Ns _ _ _ x y | .oU _ _ _ x y | .del _ x y | .app _ _ _ x y | .G0 _ _ _ x y | .mn x y | .mx x y | .C9 _ x y | .Jd _ x y | .JI _ _ _ x y=>cy x++cy y
 | .pick x y z | .x7 _ x y z=>cy x++cy y++cy z
 | .build _ ps=>ps.flatMap fun p=>cy p.2.2
 | .lX _ _ ps | .Jf _ _ ps=>ps.flatMap fun p=>cy p.2
 | .JF x lo hi=>cy x++mr lo++mr hi
 | .kR _ x lo hi mx=>cy x++mr lo++mr hi++mr mx
 | .Da _ x hi=>cy x++cy hi
 | .G1 _ l=>l.flatMap cy
 | .alloc _ | .vg=>[]
def su:FA→List Nat
 | .b b=>vJ b
 | .call _ as=>as.flatMap cy
 | .cq f as=>cy f++as.flatMap cy
def jY:Gd→List Nat
 | some (t,_)=>[t]
 | none=>[]
def dz (l:List Operand):List Nat:=l.filterMap fun | .tmp t=>some t|_=>none
def tmpsOf (o:Oper)(op:FA)(g:Gd):List Nat:=dz o.op.operands.toList++(jY g++su op)
def dL (P:Program)(n:Nat)(ops:Array Oper)(mu:Bool)(o:Oper)(m7:List Rd):Option O :=
 match bg P mu o.op,pO ops o.guard with
 | some op,some g=>if (tmpsOf o op g).all (·<n)&&(o.dst.all (·<n))then some ⟨o.dst,op,g,m7⟩else none
 | _,_=>none
def eD (P:Program)(n:Nat)(ops:Array Oper)(mu:Nat→Bool):List Nat→Option (List O)
 | []=>some []
 | i :: is=>match ops[i]? with
  | some o=>match dL P n ops (mu i) o [],eD P n ops mu is with
   | some o,some l=>some (o :: l)
   | _,_=>none
  | none=>none
def bK (o:Oper):List Nat:=(o.after.toList.filter fun e=>Region.binds .any e).map (·.on)
def iu (acc:List Nat)(o:Oper):Nat:=(bK o).foldl (fun s j=>s ||| 2^j ||| acc.getD j 0) 0
def dp:List Oper→List Nat→List Nat
 | [],acc=>acc
 | o :: l,acc=>dp l (acc++[iu acc o])
inductive Kl where|pure|read|make|FO
 deriving DecidableEq
def mw:Bo→Kl
 | .aD _ | .pick _ _ _ | .bin _ _ _ | .beq _ _ _ | .eqs _ _ _ _ | .un _ _ | .fB _ _ | .build _ _ | .lX _ _ _ | .gL _ _ | .Nq _ _ _ _ | .cK _ _ _ | .Nr _ _ _ _ | .GZ _ _ | .Ns _ _ _ _ _ | .JF _ _ _ | .kR _ _ _ _ _
 | .G1 _ _ | .ext _ _ | .mn _ _ | .mx _ _ | .wU _=>.pure
 | .l7 _ c _ _=>if c=.slice then .FO else .pure
 | .ld _ _ _ | .oU _ _ _ _ _ | .len _ _ | .yn _=>.read
 | .alloc _ | .vg=>.make
 | _=>.FO
def C1 (o:O):Kl:=match o.op with
 | .b b=>match o.d with|some _=>mw b|none=>.FO
 | _=>.FO
structure It where
 i:Nat
 o:O
 early:Bool
 ts:List Nat
def gG (b:Nat):List It→List Rd
 | []=>[]
 | y :: l=>match y.early,y.o.d,y.o.op with
  | true,some d,.b op=>if mw op=.read∧b.testBit y.i=false then⟨d,op,y.o.g⟩ :: gG b l else gG b l
  | _,_,_=>gG b l
def uw:Op→Bool
 | .alloc _ | .makeMap _ none=>true
 | _=>false
def zh (b:Nat)(before:List It)(x:It)(oper:Oper):Bool :=
 ((bK oper).all fun j=>decide (j<x.i)&&before.any (·.i==j)) &&
 (before.all fun y=>y.early||b.testBit y.i) &&
 (before.all fun y=>y.i != x.i) &&
 (match x.o.d with
  | some d=>(before.all fun y=>y.o.d != some d&&(!y.ts.contains d||(!x.early&&b.testBit y.i)))&&!x.ts.contains d
  | none=>true) &&
 (before.all fun y=>match y.o.d with
  | some d=>!x.ts.contains d||b.testBit y.i
  | none=>true) &&
 (!x.early||(C1 x.o != .FO&&(C1 x.o != .make||uw oper.op)))
def ux (P:Program)(n:Nat)(ops:Array Oper)(mu:Nat→Bool)(b:Nat)(before:List It)(x:Nat×Bool):Option It :=
 match ops[x.1]? with
 | some o=>match dL P n ops (mu x.1) o (if x.2 then []else gG b before)with
  | some o'=>let y:It:=⟨x.1,o',x.2,tmpsOf o o'.op o'.g⟩
   if zh b before y o then some y else none
  | none=>none
 | none=>none
def cP (P:Program)(n:Nat)(ops:Array Oper)(mu:Nat→Bool)(bs:List Nat)(before:List It):List (Nat×Bool)→Option (List It)
 | []=>if (List.range ops.size).all fun i=>before.any (·.i==i)then some []else none
 | x :: l=>match ux P n ops mu (bs.getD x.1 0) before x with
  | some y=>(cP P n ops mu bs (before++[y]) l).map (y :: ·)
  | none=>none
structure An where
 mu:List (Nat×Nat)
 ord:List (Nat×List (Nat×Bool))
def aZ (P:Program)(n:Nat)(an:An)(top:Bool):Code→Option C
 | .skip=>some .skip
 | .region id ops false=>(eD P n ops (fun i=>an.mu.contains (id,i)) (List.range ops.size)).map .ops
 | .region id ops true=>match an.ord.find? (·.1==id)with
  | some (_,ord)=>(cP P n ops (fun i=>an.mu.contains (id,i)) (dp ops.toList []) [] ord).map fun hO=>.ops (hO.map (·.o))
  | none=>none
 | .seq a b=>match aZ P n an top a,aZ P n an top b with
  | some a,some b=>some (.seq a b)
  | _,_=>none
 | .cond c a b=>match aH c,aZ P n an top a,aZ P n an top b with
  | some x,some a,some b=>if (match c with | .tmp t=>decide (t<n)|_=>true)then some (.cond x a b)else none
  | _,_,_=>none
 | .block id a=>(aZ P n an top a).map (.block id)
 | .loop a=>(aZ P n an top a).map .loop
 | .exit id=>some (.exit id)
 | .ret=>some .ret
 | .rangeFunc g ps cf body=>match aH g,aZ P n an false cf,aZ P n an false body with
  | some x,some a,some b=>if top&&(cy x).all (·<n)&&ps.toList.all (·<n)then some (.cg n x ps.toList a b)else none
  | _,_,_=>none
 | _=>none
def lD (P:Program):List ResultVar→Option (List Rs)
 | []=>some []
 | .tmp t :: l=>(lD P l).map (.t t :: ·)
 | .cell a t :: l=>match P.underlying t,P.info? t with
  | some d,some i=>(lD P l).map (.cl a (if cT d then i.size else 1) (cT d) :: ·)
  | _,_=>none
def xm (n:Nat):Rs→Bool
 | .t r | .cl r _ _=>r<n
def au (P:Program)(an:An)(f:FuncId):Option Fn :=
 match P.funcs[f]? with
 | some fn=>match fn.body,lD P fn.results.toList with
  | some c,some res=>match aZ P fn.ntmps an true c with
   | some c=>if cG P f&&decide (fn.params.size+fn.nfree≤fn.ntmps)&&res.all (xm fn.ntmps)then some ⟨fn.ntmps,fn.params.size+fn.nfree,res,c⟩else none
   | none=>none
  | _,_=>none
 | none=>none
section
variable {R R':ax} {H:ae}
theorem bS {x:X}(h:∀t∈cy x,R t=R' t):x.ev R=x.ev R':=by
 cases x with
 | r t=>exact h t (by simp[cy])
 | c v=>rfl
theorem jG {x:Option X}{d:Nat}(h:∀t∈mr x,R t=R' t):fe R d x=fe R' d x:=by
 cases x with
 | none=>rfl
 | some x=>simp only[fe];rw[bS h]
theorem lE:∀(ps:List (Nat×Nat×X)),(∀t∈ps.flatMap (fun p=>cy p.2.2),R t=R' t)→dI R ps=dI R' ps
 | [],_=>rfl
 | (off,n,x) :: ps,h=>by
  simp only[dI]
  rw[bS (x:=x) (R':=R') (fun t ht=>h t (by simp[ht])),lE ps (fun t ht=>h t (by rw[List.flatMap_cons];exact List.mem_append_right _ ht))]
theorem mU (n:Nat):∀(ps:List (Nat×X)) (es:List (List T)),(∀t∈ps.flatMap (fun p=>cy p.2),R t=R' t)→gN n es R ps=gN n es R' ps
 | [],_,_=>rfl
 | (i,x) :: ps,es,h=>by
  simp only[gN]
  rw[bS (x:=x) (R':=R') (fun t ht=>h t (by simp[ht]))]
  split
  ·split
   ·exact mU n ps _ (fun t ht=>h t (by rw[List.flatMap_cons];exact List.mem_append_right _ ht))
   ·rfl
  ·rfl
theorem mV (n:Nat):∀(ps:List (Nat×X)) (es:List (List T)),(∀t∈ps.flatMap (fun p=>cy p.2),R t=R' t)→gO n es R ps=gO n es R' ps
 | [],_,_=>rfl
 | (i,x) :: ps,es,h=>by
  simp only[gO]
  rw[bS (x:=x) (R':=R') (fun t ht=>h t (by simp[ht]))]
  split
  ·split
   ·exact mV n ps _ (fun t ht=>h t (by rw[List.flatMap_cons];exact List.mem_append_right _ ht))
   ·rfl
  ·rfl
theorem n6:∀(l:List X),(∀t∈l.flatMap cy,R t=R' t)→l.map (X.ev R)=l.map (X.ev R')
 | [],_=>rfl
 | x :: l,h=>by
  simp only[List.map_cons]
  rw[bS (x:=x) (R':=R') (fun t ht=>h t (by simp[ht])),n6 l (fun t ht=>h t (by rw[List.flatMap_cons];exact List.mem_append_right _ ht))]
theorem n8 {b:Bo}(h:∀t∈vJ b,R t=R' t):av R H b=av R' H b:=by
 cases b<;>simp only[vJ,List.mem_append]at h
 case build z ps=>simp only[av];rw[lE ps h]
 case lX n z ps=>simp only[av];rw[mU _ ps _ h]
 case Jf n z ps=>simp only[av];rw[mV _ ps _ h]
 case G1 f l=>simp only[av,yr];rw[n6 l h]
 case alloc=>rfl
 case vg=>rfl
 case JF x lo hi =>
  have h1:=bS (x:=x) (R:=R) (R':=R') (fun t ht=>h t (.inl (.inl ht)))
  have h2:=fun d=>jG (x:=lo) (d:=d) (R:=R) (R':=R') (fun t ht=>h t (.inl (.inr ht)))
  have h3:=fun d=>jG (x:=hi) (d:=d) (R:=R) (R':=R') (fun t ht=>h t (.inr ht))
  simp only[av,h1,h2,h3]
 case kR n x lo hi mx =>
  have hm:∀m,mx=some m→m.ev R=m.ev R':=fun m e=>bS (fun t ht=>h t (.inr (by subst e;exact ht)))
  have h1:=bS (x:=x) (R:=R) (R':=R') (fun t ht=>h t (.inl (.inl (.inl ht))))
  have h2:=fun d=>jG (x:=lo) (d:=d) (R:=R) (R':=R') (fun t ht=>h t (.inl (.inl (.inr ht))))
  have h3:=fun d=>jG (x:=hi) (d:=d) (R:=R) (R':=R') (fun t ht=>h t (.inl (.inr ht)))
  simp only[av,h1,h2,h3]
  cases mx with
  | none =>
   cases x.ev R' with
   | sl k es=>dsimp only;cases fe R' 0 lo with
    | none=>rfl
    | some l=>cases fe R' es.length hi<;>rfl
   | aB b off len n'=>rfl
   | _=>rfl
  | some m =>
   cases x.ev R' with
   | sl k es=>dsimp only;cases fe R' 0 lo with
    | none=>rfl
    | some l=>cases fe R' es.length hi with
     | none=>rfl
     | some h=>dsimp only;rw[hm m rfl]
   | aB b off len n'=>rfl
   | _=>rfl
 all_goals first
  | (simp only[av,bS h];done)
  | (rename_i x;simp only[av];rw[bS (x:=x) (R':=R') h])
  | (rename_i x y;simp only[av];rw[bS (x:=x) (R':=R') (fun t ht=>h t (.inl ht)),bS (x:=y) (R':=R') (fun t ht=>h t (.inr ht))])
  | (rename_i x y z;simp only[av];rw[bS (x:=x) (R':=R') (fun t ht=>h t (.inl (.inl ht))),bS (x:=y) (R':=R') (fun t ht=>h t (.inl (.inr ht))),bS (x:=z) (R':=R') (fun t ht=>h t (.inr ht))])
theorem jm {g:Gd}(h:∀t∈jY g,R t=R' t):aV R g=aV R' g:=by
 cases g with
 | none=>rfl
 | some p=>obtain⟨t,b⟩:=p;simp only[aV];rw[h t (by simp[jY])]
theorem sx {b:Bo}(hk:mw b=.pure)(H2:ae):av R H2 b=(av R H b).map fun p=>(p.1,H2):=by
 cases b<;>simp only[mw]at hk<;>(try (cases hk;done))<;>simp only[av]
 case kR n x lo hi mx =>
  cases x.ev R with
  | sl k es =>
   dsimp only
   cases fe R 0 lo with
   | none=>rfl
   | some l=>cases fe R es.length hi with
    | none=>rfl
    | some h=>cases mx with
     | none=>dsimp only;split<;>rfl
     | some m=>dsimp only;cases bd (m.ev R)with
      | none=>rfl
      | some m=>dsimp only;split<;>rfl
  | aB b off len n' =>
   dsimp only
   cases fe R 0 lo with
   | none=>rfl
   | some l=>cases fe R len hi with
    | none=>rfl
    | some h=>cases mx with
     | none=>dsimp only;split<;>rfl
     | some m=>rfl
  | dB b off len n' c =>
   dsimp only
   cases fe R 0 lo with
   | none=>rfl
   | some l=>cases fe R len hi with
    | none=>rfl
    | some h=>cases mx with
     | none=>dsimp only;split<;>rfl
     | some m=>rfl
  | _=>rfl
 all_goals (try rfl)
 all_goals (try (simp[Option.map_map,Function.comp_def];done))
 all_goals (try (simp[Option.map_map,Option.map_bind,Function.comp_def];done))
 all_goals (repeat' split)
 all_goals (try (simp_all [Option.map_map,Function.comp_def];done))
theorem jH {b:Bo}{v:T}{H':ae}(hk:mw b=.pure)(h:av R H b=some (v,H')):H'=H∧∀H2,av R H2 b=some (v,H2):=by
 constructor
 ·have h1:=sx (R:=R) (H:=H) hk H
  rw[h]at h1;simp at h1;exact h1
 ·intro H2;rw[sx (H:=H) hk H2,h];rfl
theorem iv {l:ae}{b:Nat}{x:B}(h:H[b]?=some x):(H++l)[b]?=some x:=by
 rw[List.getElem?_append_left (List.getElem?_eq_some_iff.1 h).1];exact h
theorem Ed {n:Nat}{t:T}{cs:List T}(l:ae)(h:iU H n t=some cs):iU (H++l) n t=some cs:=by
 unfold iU at *
 cases t<;>simp only[]at h ⊢<;>try (first|exact h|cases h)
 rename_i b off
 cases hb:H[b]? with
 | none=>simp[hb]at h
 | some x=>rw[hb]at h;rw[iv hb];exact h
theorem xn {t:T}{es:List (T×T)}(l:ae)(h:eJ H t=some es):eJ (H++l) t=some es:=by
 unfold eJ at *
 cases t<;>simp only[]at h ⊢<;>try (first|exact h|cases h)
 rename_i b
 cases hb:H[b]? with
 | none=>simp[hb]at h
 | some x=>rw[hb]at h;rw[iv hb];exact h
theorem zi {t:T}{k:Lc}{n:Nat}(l:ae)(h:gb H k t=some n):gb (H++l) k t=some n:=by
 unfold gb at *
 cases k<;>cases t<;>simp only[]at h ⊢<;>try (first|exact h|cases h)
 rename_i b
 cases hb:H[b]? with
 | none=>simp[hb]at h
 | some x=>rw[hb]at h;rw[iv hb];exact h
theorem sy {t:T}{n:Nat}{es:List (List T)}(l:ae)(h:bl H n t=some es):bl (H++l) n t=some es:=by
 unfold bl at *
 cases t<;>simp only[]at h ⊢<;>try (first|exact h|cases h)
 rename_i b off len n'
 cases hb:H[b]? with
 | none=>simp[hb]at h
 | some x=>rw[hb]at h;rw[iv hb];exact h
theorem jI {b:Bo}{v:T}{H':ae}(hk:mw b=.read)(h:av R H b=some (v,H')):H'=H∧∀l,av R (H++l) b=some (v,H++l):=by
 cases b<;>simp only[mw]at hk<;>(try (cases hk;done))<;>simp only[av]at h ⊢
 case l7=>split at hk<;>cases hk
 case yn x =>
  cases he:bl H 1 (x.ev R)with
  | none=>simp[he]at h
  | some es =>
   rw[he]at h
   refine⟨?_,fun l=>?_⟩
   ·dsimp only at h;split at h
    ·cases h
    ·simp only[Option.map_eq_some_iff,Prod.mk.injEq]at h;obtain⟨_,_,_,e⟩:=h;exact e.symm
   ·rw[sy l he]
    dsimp only at h ⊢;split at h
    ·cases h
    ·simp only[Option.map_eq_some_iff,Prod.mk.injEq]at h ⊢
     obtain⟨a,h1,h2,_⟩:=h
     rename_i aY
     exact⟨a,h1,h2,trivial⟩
 case len k x =>
  simp only[Option.map_eq_some_iff,Prod.mk.injEq]at h ⊢
  obtain⟨a,h1,h2,h3⟩:=h
  exact⟨h3.symm,fun l=>⟨a,zi l h1,h2,trivial⟩⟩
 case ld n ag x =>
  cases he:iU H n (x.ev R)with
  | none=>simp[he]at h
  | some cs =>
   simp only[he,Option.map_eq_some_iff,Prod.mk.injEq]at h
   obtain⟨a,h1,h2,h3⟩:=h
   exact⟨h3.symm,fun l=>by simp[Ed l he,h1,h2]⟩
 case oU kt z ok m k =>
  split at h
  ·rename_i hh
   simp only[hh,if_true]
   cases he:eJ H (m.ev R)with
   | none=>simp[he]at h
   | some es =>
    simp only[he]at h
    simp only[xn _ he]
    split at h
    ·split at h
     ·cases h;exact⟨rfl,fun l=>rfl⟩
     ·cases h
    ·cases h;exact⟨rfl,fun l=>rfl⟩
    ·cases h
  ·cases h
end
theorem sz:∀(l:List Oper) (acc:List Nat),∃rest,dp l acc=acc++rest∧rest.length=l.length
 | [],acc=>⟨[],by simp[dp],rfl⟩
 | o :: l,acc=>by
  obtain⟨r,h,hl⟩:=sz l (acc++[iu acc o])
  exact⟨iu acc o :: r,by simp[dp,h],by simp[hl]⟩
theorem sA:∀(l:List Oper) (acc:List Nat) (k:Nat) (o:Oper),l[k]?=some o→(dp l acc)[acc.length+k]?=some (iu ((dp l acc).take (acc.length+k)) o)
 | [],_,_,_,h=>by simp at h
 | x :: l,acc,0,o,h=>by
  simp at h;subst h
  obtain⟨r,h,_⟩:=sz l (acc++[iu acc x])
  simp[dp,h]
 | x :: l,acc,k+1,o,h=>by
  have:=sA l (acc++[iu acc x]) k o (by simpa using h)
  simp only[List.length_append,List.length_singleton]at this
  simp only[dp]
  rw[show acc.length+(k+1)=acc.length+1+k by omega]
  exact this
theorem pP (acc:List Nat)(t:Nat):∀(l:List Nat) (s:Nat),(l.foldl (fun s j=>s ||| 2^j ||| acc.getD j 0) s).testBit t=true→s.testBit t=true∨∃j∈l,t=j∨(acc.getD j 0).testBit t=true
 | [],s,h=>.inl h
 | x :: l,s,h=>by
  rcases pP acc t l _ h with h|⟨j,hj,h⟩
  ·simp only[Nat.testBit_or,Bool.or_eq_true,Nat.testBit_two_pow,decide_eq_true_eq]at h
   rcases h with(h|h)|h
   ·exact .inl h
   ·exact .inr ⟨x,by simp,.inl h.symm⟩
   ·exact .inr ⟨x,by simp,.inr h⟩
  ·exact .inr ⟨j,by simp[hj],h⟩
theorem sB {acc:List Nat}{o:Oper}{t:Nat}(h:(iu acc o).testBit t=true):∃j∈bK o,t=j∨(acc.getD j 0).testBit t=true:=by
 rcases pP acc t _ _ h with h|h
 ·simp at h
 ·exact h
theorem sC {ops:Array Oper}{D:Nat→Prop}(hD:∀i o,ops[i]?=some o→D i→∀j∈bK o,j<i∧D j) :
  ∀(i:Nat) (o:Oper) (t:Nat),ops[i]?=some o→(∀j∈bK o,j<i∧D j)→((dp ops.toList []).getD i 0).testBit t=true→D t:=by
 intro i
 induction i using Nat.strongRecOn with
 | _ i ih =>
  intro o t ho hp hb
  have h1:=sA ops.toList [] i o (by simpa using ho)
  simp only[List.length_nil,Nat.zero_add]at h1
  rw[List.getD_eq_getElem?_getD,h1,Option.getD_some]at hb
  obtain⟨j,hj,h⟩:=sB hb
  obtain⟨aE,RO⟩:=hp j hj
  rcases h with rfl|h
  ·exact RO
  ·rw[List.getD_eq_getElem?_getD,List.getElem?_take,if_pos aE,←List.getD_eq_getElem?_getD]at h
   have lB:i<ops.size:=(Array.getElem?_eq_some_iff.1 ho).1
   have RP:ops[j]?=some ops[j]:=Array.getElem?_eq_getElem (Nat.lt_trans aE lB)
   exact ih j aE ops[j] t RP (fun k hk=>hD j _ RP RO k hk) h
def Fw (r:Option Nat):Fence:={ fn:=fun _=>True,depth:=none,alive:=false,round:=r }
theorem sD {r r':Option Nat}{n:Nat}{P:Program}{f:FuncId}{args:Array Value}{w:World}{K:Ending→World→Prop}(h:CallsIn (Fw r) n P f args w K):CallsIn (Fw r') n P f args w K:=h
section
variable {P:Program} {w0 w:World} {g:Ctx} {H H':ae} {R:ax} {a:Act} {n:Nat} {ops:Array Oper}
theorem aR {mu:Bool}{o:Oper}{st:List Rd}{y:O}(h:dL P n ops mu o st=some y):∃op gd,bg P mu o.op=some op∧pO ops o.guard=some gd∧y=⟨o.dst,op,gd,st⟩ ∧
  (∀t∈tmpsOf o op gd,t<n)∧∀d,o.dst=some d→d<n:=by
 unfold dL at h
 cases h1:bg P mu o.op with
 | none=>simp[h1]at h
 | some op=>cases h2:pO ops o.guard with
  | none=>simp[h1,h2]at h
  | some gd =>
   simp only[h1,h2]at h
   split at h
   ·rename_i hh
    simp only[Bool.and_eq_true,List.all_eq_true,decide_eq_true_eq]at hh
    exact⟨op,gd,rfl,rfl,(Option.some.inj h).symm,hh.1,fun d hd=>by have:=hh.2;simp[hd]at this;exact this⟩
   ·cases h
def eM (g:Ctx)(w:World)(R:ax)(a:Act)(ts:List Nat):Prop:=∀t∈ts,VR g w (R t) (a.tmps.getD t undef)
theorem eM.sub {ts G5:List Nat}(h:eM g w R a ts)(hs:∀t∈G5,t∈ts):eM g w R a G5:=fun t ht=>h t (hs t ht)
theorem pQ {l:List Operand}(h:eM g w R a (dz l)):RV g w R a.eval l:=by
 intro x hx y hy
 cases x with
 | tmp t=>simp only[aH,Option.some.injEq]at hy;subst hy;exact h t (by simp only[dz,List.mem_filterMap];exact⟨_,hx,rfl⟩)
 | const v =>
  simp only[aH,Option.map_eq_some_iff]at hy
  obtain⟨t,h1,rfl⟩:=hy
  exact jD h1
 | «global» x=>simp[aH]at hy
 | func f=>simp only[aH,Option.some.injEq]at hy;subst hy;exact .fn rfl (by simp)
theorem my {o:Oper}{gd:Gd}(hg:pO ops o.guard=some gd)(hn:a.tmps.size=n)(hd:∀t∈jY gd,t<n)(h:eM g w R a (jY gd)):Region.wanted o (yielded ops a.tmps)=aV R gd:=by
 unfold Region.wanted
 cases ho:o.guard with
 | none=>rw[ho]at hg;simp only[pO,Option.some.injEq]at hg;subst hg;rfl
 | some p =>
  obtain⟨j,b⟩:=p
  rw[ho]at hg
  simp only[pO]at hg
  cases eZ:(ops[j]?).bind (·.dst)with
  | none=>simp[eZ]at hg
  | some d =>
   simp only[eZ,Option.some.injEq]at hg;subst hg
   have hv:=h d (by simp[jY])
   have aE:d<a.tmps.size:=by rw[hn];exact hd d (by simp[jY])
   simp only[yielded,eZ,Option.bind_some,aV]
   rw[Array.getD_eq_getD_getElem?,Array.getElem?_eq_getElem aE,Option.getD_some]at hv
   rw[Array.getElem?_eq_getElem aE]
   generalize R d=t at *
   generalize a.tmps[d]=v at *
   cases hv<;>simp
theorem fE {mu:Bool}{o:Op}{op:FA}(h:bg P mu o=some op):∀c,o≠.defer c:=by
 rintro c rfl;simp[bg,a7]at h
theorem gT {mu:Bool}{o:Op}{b:Bo}(h:bg P mu o=some (.b b)):a7 P mu o=some b:=by
 unfold bg at h
 split at h
 ·split at h
  ·simp only[Option.map_eq_some_iff]at h;obtain⟨_,_,h⟩:=h;cases h
  ·split at h
   ·rename_i h1 h2
    cases h
    simp only[a7,h1,h2]
   ·cases h
 ·simp only[Option.map_eq_some_iff]at h;obtain⟨_,_,h⟩:=h;cases h
 ·simp only[Option.map_eq_some_iff]at h;obtain⟨x,h1,h⟩:=h;cases h;exact h1
theorem zj {r:Option Nat}{mu:Bool}{o:Oper}{b:Bo}{t:T}(hc:bg P mu o.op=some (.b b))(h:SR w0 g H w)(hr:eM g w R a (dz o.op.operands.toList))(he:av R H b=some (t,H')) :
  ∃v w' g',(∀(K:Act→World→Prop) (Q:Exit→Act→World→Prop),K (a.put o.dst v) w'→o.wpIn (Fw r) 0 P a w K Q)∧Le g w g' w'∧SR w0 g' H' w'∧VR g' w' t v∧Fr g H g' H':=by
 obtain⟨nx,v,w',g',h1,h2,h3⟩:=HB (fun _=>rfl) (gT hc) h (pQ hr) he
 refine⟨v,w',g',fun K Q hk=>⟨fun _ _=>trivial,?_⟩,h3⟩
 rw[Oper.semAt_eq _ _ _ (fE hc),h1]
 rcases h2 with rfl|⟨rfl,rfl⟩
 ·exact hk
 ·exact hk
theorem uy {mu:Bool}{o:Op}{x:X}(h:a7 P mu o=some (.ni x)):∃it,o=.next it false∧aH it=some x:=by
 cases o
 case next it str =>
  cases str<;>simp only[a7]at h<;>(try (cases h;done))
  simp only[Option.map_eq_some_iff,Bo.ni.injEq]at h
  obtain⟨y,h1,rfl⟩:=h
  exact⟨it,rfl,h1⟩
 case range ty m =>
  simp only[a7]at h
  split at h
  ·simp only[Option.map_eq_some_iff]at h;obtain⟨_,_,h⟩:=h;cases h
  ·cases h
 case makeMap ty r =>
  cases r<;>simp only[a7]at h<;>cases h
 case makeFunc fn first ja =>
  cases fn<;>simp only[a7]at h<;>(try (cases h;done))
  split at h
  ·simp only[Option.map_eq_some_iff]at h;obtain⟨_,_,h⟩:=h;cases h
  ·cases h
 case call c =>
  obtain⟨callee,args,gw⟩:=c
  cases callee
  case value x =>
   cases x<;>simp only[a7]at h<;>(try (cases h;done))
   split at h<;>cases h
  case builtin b =>
   simp only[a7,Option.bind_eq_some_iff]at h
   obtain⟨l,_,h⟩:=h
   unfold gS at h
   split at h
   ·have hz:∀tl l b',sk P tl l=some b'→b'≠.ni x:=by
     rintro tl l b' hb rfl
     simp only[sk]at hb
     (repeat' split at hb)<;>first|(cases hb;done)|(simp at hb;done)
    split at h
    ·rename_i b' hb;exact absurd (Option.some.inj h) (hz _ _ _ hb)
    ·simp only[jF]at h
     (repeat' split at h)<;>first|(cases h;done)|(simp at h;done)
   all_goals ((repeat' split at h)<;>first|(cases h;done)|(simp at h;done))
  all_goals (simp only[a7]at h;cases h)
 all_goals simp only[a7]at h
 all_goals first|(cases h;done)|(simp only[Option.map_eq_some_iff]at h;obtain⟨_,_,h⟩:=h;cases h;done)|skip
 all_goals (try simp only[Option.bind_eq_some_iff]at h)
 all_goals (try (obtain⟨_,_,h⟩:=h))
 all_goals (try simp only[y8,pK,pJ,kD,ur,ml,xg,mm,xh,xi,uu]at h)
 all_goals first|((repeat' split at h)<;>first|(cases h;done)|(simp at h;done))|skip
theorem zk {r:Option Nat}{mu:Bool}{o:Oper}{x:X}{b bi:Nat}{es:List (T×T)}{ix:List Nat}{cur:Option Nat}(hc:bg P mu o.op=some (.b (.ni x)))(h:SR w0 g H w)(hr:eM g w R a (dz o.op.operands.toList))
  (hx:x.ev R=.ptr bi 0) (hb:H[b]?=some (.eH es ix bi cur)) :
  ∃t H' v w' g',kY H b bi es ix t H'∧(∀(K:Act→World→Prop) (Q:Exit→Act→World→Prop),K (a.put o.dst v) w'→o.wpIn (Fw r) 0 P a w K Q)∧Le g w g' w'∧SR w0 g' H' w'∧VR g' w' t v∧Fr g H g' H':=by
 have jR:=fE hc
 obtain⟨it,ho,h1⟩:=uy (gT hc)
 have hv:=pQ hr it (by rw[ho];simp[Op.operands]) x h1
 rw[hx]at hv
 obtain⟨t,H',hn,v,w',g',bG,h3⟩:=D0 (P:=P) (ty:=o.type) h hv hb
 refine⟨t,H',v,w',g',hn,fun K Q hk=>⟨fun _ _=>trivial,?_⟩,h3⟩
 rw[Oper.semAt_eq _ _ _ jR]
 have e:(execOp a.eval o).run P w=.ok (.value v) w':=by
  obtain⟨dst,op,ty,pos,after,guard⟩:=o
  simp only at ho;subst ho
  simp[execOp,bG]
 rw[e]
 exact hk
theorem iz {f:FuncId}{args:Array Value}(hf:cG P f=true):(callFunc f args).run P w=.ok (.enter f args) w:=by
 unfold cG at hf
 cases h:P.funcs[f]? with
 | none=>simp[h]at hf
 | some fn =>
  simp only[h,Bool.and_eq_true,bne_iff_ne,ne_eq]at hf
  obtain⟨c,hb⟩:=Option.isSome_iff_exists.1 hf.2
  simp[callFunc,h,hf.1,hb]
def uz (r:Option Nat)(P:Program)(o:Oper)(a:Act)(K:Act→World→Prop):Ending→World→Prop:=fun e w'=>∃v,e=.returned v∧K (a.put o.dst v) w'
theorem upon_enter {r:Option Nat}{o:Oper}{f:FuncId}{args:Array Value}{K:Act→World→Prop}{Q:Exit→Act→World→Prop}(h:CallsIn (Fw none) 0 P f args w (uz r P o a K)) :
  o.uponIn (Fw r) 0 P a K Q (.ok (.enter f args) w):=by
 rw[Oper.uponIn_enter]
 refine⟨fun h=>by simp[Fw]at h,(sD h).mono fun e w' he=>?_⟩
 obtain⟨v,rfl,hk⟩:=he
 exact hk
theorem qM {mu:Bool}{op:Op}{f:Nat}{as:List X}(h:bg P mu op=some (.call f as)) :
  ∃args gw,op=.call { callee:=.value (.func f),args:=args,argTypes:=gw }∧cG P f=true∧er args.toList=some as:=by
 cases op
 case call c =>
  obtain⟨callee,args,gw⟩:=c
  cases callee
  case value x =>
   cases x
   case func f' =>
    simp only[bg]at h
    split at h
    ·rename_i hc
     simp only[Option.map_eq_some_iff]at h
     obtain⟨yB,h1,h2⟩:=h
     cases h2
     exact⟨args,gw,rfl,hc,h1⟩
    ·split at h<;>cases h
   all_goals simp[bg,a7]at h
  all_goals (simp only[bg,Option.map_eq_some_iff]at h;obtain⟨_,_,h⟩:=h;cases h)
 all_goals (simp only[bg,Option.map_eq_some_iff]at h;obtain⟨_,_,h⟩:=h;cases h)
theorem jZ {mu:Bool}{op:Op}{x:X}{as:List X}(h:bg P mu op=some (.cq x as)) :
  ∃t args gw,x=.r t∧op=.call { callee:=.value (.tmp t),args:=args,argTypes:=gw }∧er args.toList=some as:=by
 cases op
 case call c =>
  obtain⟨callee,args,gw⟩:=c
  cases callee
  case value x =>
   cases x
   case tmp t =>
    simp only[bg,Option.map_eq_some_iff]at h
    obtain⟨yB,h1,h2⟩:=h
    cases h2
    exact⟨t,args,gw,rfl,rfl,h1⟩
   case func f' =>
    simp only[bg]at h
    split at h
    ·simp only[Option.map_eq_some_iff]at h
     obtain⟨yB,h1,h2⟩:=h
     cases h2
    ·split at h<;>cases h
   all_goals simp[bg,a7]at h
  all_goals (simp only[bg,Option.map_eq_some_iff]at h;obtain⟨_,_,h⟩:=h;cases h)
 all_goals (simp only[bg,Option.map_eq_some_iff]at h;obtain⟨_,_,h⟩:=h;cases h)
theorem xo {r:Option Nat}{mu:Bool}{o:Oper}{f:Nat}{as:List X}(hc:bg P mu o.op=some (.call f as))(hr:eM g w R a (dz o.op.operands.toList)) :
  ∃args:List Value,a6 g w (as.map (X.ev R)) args ∧
   ∀(K:Act→World→Prop) (Q:Exit→Act→World→Prop),cG P f=true→CallsIn (Fw none) 0 P f args.toArray w (uz r P o a K)→o.wpIn (Fw r) 0 P a w K Q:=by
 have jR:=fE hc
 obtain⟨args,gw,ho,gH,h1⟩:=qM hc
 have hv:=et (ρ:=a.eval) args.toList as h1 (pQ (hr.sub fun t ht=>by
  simp only[dz,List.mem_filterMap]at ht ⊢
  obtain⟨x,hx,e⟩:=ht
  exact⟨x,by rw[ho];simp only[Op.operands,Call.operands];simp at hx;simp[hx],e⟩))
 refine⟨args.toList.map a.eval,hv,fun K Q _ hk=>⟨fun _ _=>trivial,?_⟩⟩
 rw[Oper.semAt_eq _ _ _ jR]
 have bG:(execOp a.eval o).run P w=.ok (.enter f (args.toList.map a.eval).toArray) w:=by
  have:=iz (P:=P) (w:=w) (args:=(args.toList.map a.eval).toArray) gH
  have e2:(args.toList.map a.eval).toArray=args.map a.eval:=by rw[←Array.toList_map]
  rw[e2]at this ⊢
  simp only[execOp,ho,resolve,Act.eval,Deferred.ofValue,invoke]
  simpa using this
 rw[bG]
 exact upon_enter hk
theorem uA {r:Option Nat}{mu:Bool}{o:Oper}{x:X}{f:Nat}{cs:List T}{as:List X}(hc:bg P mu o.op=some (.cq x as))(hr:eM g w R a (dz o.op.operands.toList))(hx:x.ev R=.fn f cs) :
  ∃args:List Value,a6 g w (as.map (X.ev R)++cs) args ∧
   ∀(K:Act→World→Prop) (Q:Exit→Act→World→Prop),cG P f=true→CallsIn (Fw none) 0 P f args.toArray w (uz r P o a K)→o.wpIn (Fw r) 0 P a w K Q:=by
 have jR:=fE hc
 obtain⟨t,args,gw,rfl,ho,h1⟩:=jZ hc
 have hv:=et (ρ:=a.eval) args.toList as h1 (pQ (hr.sub fun t ht=>by
  simp only[dz,List.mem_filterMap]at ht ⊢
  obtain⟨x,hx,e⟩:=ht
  exact⟨x,by rw[ho];simp only[Op.operands,Call.operands];simp at hx;simp[hx],e⟩))
 have hf:=hr t (by rw[ho];simp only[dz,List.mem_filterMap];exact⟨.tmp t,by simp[Op.operands,Call.operands],rfl⟩)
 simp only[X.ev]at hx
 rw[hx]at hf
 generalize xl:a.tmps.getD t undef=vf at hf
 cases hf with
 | @fn _ _ vs hl r7 =>
  refine⟨args.toList.map a.eval++vs.toList,hv.append ⟨by simp[hl],fun i t v ha hb=>r7 i t v ha (by simpa using hb)⟩,fun K Q gH hk=>⟨fun _ _=>trivial,?_⟩⟩
  rw[Oper.semAt_eq _ _ _ jR]
  have bG:(execOp a.eval o).run P w=.ok (.enter f (args.toList.map a.eval++vs.toList).toArray) w:=by
   have:=iz (P:=P) (w:=w) (args:=(args.toList.map a.eval++vs.toList).toArray) gH
   have e2:(args.toList.map a.eval++vs.toList).toArray=args.map a.eval++vs:=by rw[←Array.toList_map];simp
   rw[e2]at this ⊢
   have e:a.eval (.tmp t)=.func (.func f) #[] vs:=xl
   simp only[execOp,ho,resolve,e,Deferred.ofValue,invoke]
   simpa using this
  rw[bG]
  exact upon_enter hk
end
def kc:T→Option Nat
 | .ptr b _ | .map b=>some b
 | _=>none
def iA (R:ax)(y:It):Option Nat:=match y.o.d,y.o.op with
 | some d,.b (.alloc _)=>kc (R d)
 | some d,.b .vg=>kc (R d)
 | _,_=>none
def pc (g:Ctx)(N:Nat)(R:ax)(H:ae)(y:It):Prop :=
 (aV R y.o.g=false∧∀d,y.o.d=some d→R d=aW) ∨
 (aV R y.o.g=true∧∃d b,y.o.d=some d∧y.o.op=.b b∧(
  ((mw b=.pure∨mw b=.read)∧av R H b=some (R d,H)) ∨
  (∃k z,b=.alloc z∧R d=.ptr k 0∧H[k]?=some (.cells z)∧g.φ k=none∧N≤k) ∨
  (∃k,b=.vg∧R d=.map k∧H[k]?=some (.map [])∧g.φ k=none∧N≤k)))
theorem pc.mono {g g':Ctx}{N:Nat}{R R':ax}{H H':ae}{y:It}(h:pc g N R H y)(hg:∀t∈jY y.o.g,R' t=R t)(hr:∀t∈su y.o.op,R' t=R t)(hd:∀d,y.o.d=some d→R' d=R d)
  (J9:∀d b,aV R y.o.g=true→y.o.d=some d→y.o.op=.b b→mw b=.read→av R H b=some (R d,H)→av R H' b=some (R d,H'))
  (rJ:∀k x,iA R y=some k→H[k]?=some x→(∀e,x≠.tok e)→g.φ k=none→N≤k→H'[k]?=some x∧g'.φ k=none):pc g' N R' H' y:=by
 have hw:aV R' y.o.g=aV R y.o.g:=jm hg
 rcases h with⟨h1,h2⟩|⟨h1,d,b,h2,h3,h4⟩
 ·exact .inl ⟨hw▸h1,fun d e=>by rw[hd d e];exact h2 d e⟩
 ·refine .inr ⟨hw▸h1,d,b,h2,h3,?_⟩
  rw[hd d h2]
  rw[h3]at hr
  rcases h4 with⟨hk,he⟩|⟨k,z,rfl,e1,e2,e3,e4⟩|⟨k,rfl,e1,e2,e3,e4⟩
  ·refine .inl ⟨hk,?_⟩
   rw[n8 (R:=R') (R':=R) hr]
   rcases hk with hk|hk
   ·exact(jH hk he).2 H'
   ·exact J9 d b h1 h2 h3 hk he
  ·have hm:=rJ k _ (by simp[iA,h2,h3,e1,kc]) e2 (by simp) e3 e4
   exact .inr (.inl ⟨k,z,rfl,e1,hm.1,hm.2,e4⟩)
  ·have hm:=rJ k _ (by simp[iA,h2,h3,e1,kc]) e2 (by simp) e3 e4
   exact .inr (.inr ⟨k,rfl,e1,hm.1,hm.2,e4⟩)
theorem n9 (a:Act)(d:Option Nat)(v:Value)(t:Nat)(hd:∀e,d=some e→e<a.tmps.size):(a.put d v).tmps.getD t undef=if d=some t then v else a.tmps.getD t undef:=by
 cases d with
 | none=>simp[Act.put]
 | some d =>
  have aE:=hd d rfl
  simp only[Act.put]
  by_cases e:d=t
  ·subst e;simp[Array.getD_eq_getD_getElem?,aE]
  ·rw[if_neg (by simpa using e),Array.getD_eq_getD_getElem?,Array.getD_eq_getD_getElem?,Array.getElem?_setIfInBounds_ne e]
theorem oa (a:Act)(d:Option Nat)(v:Value):(a.put d v).tmps.size=a.tmps.size:=by cases d<;>simp[Act.put]
theorem fN (a:Act)(d:Option Nat)(v:Value):(a.put d v).defers=a.defers:=by cases d<;>simp[Act.put]
theorem bF {R:ax}{d:Option Nat}{v:T}{t:Nat}(h:d≠some t):a0 R d v t=R t:=by
 cases d with
 | none=>rfl
 | some d=>simp only[a0,kQ];rw[if_neg];rintro rfl;exact h rfl
theorem gA {R:ax}{v:T}{t:Nat}:a0 R (some t) v t=v:=by simp[a0,kQ]
theorem SR.Oz {w0 w:World}{g:Ctx}{H:ae}(h:SR w0 g H w){x:B}(hx:(∃cs,x=.cells cs)∨∃es,x=.map es):SR w0 g (H++[x]) w:=by
 refine⟨h.size,h.jb,h.wX,h.fresh,fun b y hy=>by have:=h.nH b y hy;simp;omega,fun t e y hy=>by have:=h.ft t e y hy;simp;omega,fun b y hy=>?_,h.m8,h.env⟩
 by_cases hb:b=H.length
 ·subst hb
  rw[dm]at hy
  have hn:=h.DE (b:=H.length) (Nat.le_refl _)
  cases hy
  rcases hx with⟨cs,rfl⟩|⟨es,rfl⟩<;>intro r o q hq<;>rw[hn]at hq<;>cases hq
 ·exact h.gF b y (bO hb hy)
theorem SR.drew {w0 w w':World}{g:Ctx}{H:ae}(h:SR w0 g H w)(tr:Tr w w' ff gz)(hz:w'.heap.size=w.heap.size):SR w0 g H w'∧Le g w g w':=by
 have le:Le g w g w':=Le.fJ tr (fun _ _ h=>h) (fun _ _ h=>h) (fun _ _ _ h=>h) (fun _ _ hs=>hs.elim)
 refine⟨?_,le⟩
 exact h.step (fun _=>False) tr le (fun _ _ hs=>hs.elim) (fun _ hm=>hm.elim) (fun r o hr=>h.fresh r o (by omega)) h.nH h.ft (fun _ _ _=>rfl) (fun _ _ _ _=>⟨id,id⟩) (fun _ _ _ _=>rfl) (fun b x hx=>.inl ⟨id,hx⟩)
section
variable {P:Program} {w0 w:World} {g:Ctx} {H:ae} {a:Act}
theorem sE {r:Option Nat}{mu:Bool}{o:Oper}{z:List T}{k:Nat}(hm:uw o.op=true)(hc:bg P mu o.op=some (.b (.alloc z)))(h:SR w0 g H w)(hk:H[k]?=some (.cells z))(hn:g.φ k=none) :
  ∃v w' g',(∀(K:Act→World→Prop) (Q:Exit→Act→World→Prop),K (a.put o.dst v) w'→o.wpIn (Fw r) 0 P a w K Q)∧Le g w g' w'∧SR w0 g' H w'∧VR g' w' (.ptr k 0) v∧∀b,g.φ b=none→b≠k→g'.φ b=none:=by
 obtain⟨dst,op,ty,pos,after,guard⟩:=o
 simp only at hm hc
 have hc:=gT hc
 unfold uw at hm
 split at hm
 ·rename_i t _
  simp only[a7,Option.map_eq_some_iff]at hc
  obtain⟨z',h1,h2⟩:=hc
  cases h2
  obtain⟨i,zv,h2,h3,h4⟩:=eu h1
  obtain⟨hv,ho⟩:=cI (g:=g) (w:=w) _ _ h4
  have tr:Tr w w ff gz:=Tr.refl w
  obtain⟨le,sr,fr⟩:=h.mut (c:=zv.cells) (ty:=t) (H':=H) (b:=k) tr rfl hk hn (fun b' x _ hx=>.inl hx) (Nat.le_refl _) (fun b' x hx _ _ _=>hx) (by simpa using hv.He ho)
  refine⟨.pointer (some ⟨w.heap.size,0,none⟩),_,_,fun K Q hk=>⟨fun _ _=>trivial,?_⟩,le,sr,.ptr (r:=w.heap.size) (o:=0) (q:=zv.cells.size) (by simp[Ctx.at]),fun b hb aY=>by simp only[Ctx.at,Ctx.row];rw[if_neg aY];exact hb⟩
  rw[Oper.semAt_eq _ _ _ (by rintro c⟨⟩)]
  have bG:(execOp a.eval ⟨dst,.alloc t,ty,pos,after,guard⟩).run P w=.ok (.value (.pointer (some ⟨w.heap.size,0,none⟩))) (w.alloc (.cells zv.cells t)):=by
   simp[execOp,Instr.alloc,zeroValue,aS h2,h3,newVar,newRow]
  rw[bG]
  exact hk
 ·simp[a7]at hc
 ·cases hm
theorem xp {r:Option Nat}{mu:Bool}{o:Oper}{k:Nat}(hm:uw o.op=true)(hc:bg P mu o.op=some (.b .vg))(h:SR w0 g H w)(hk:H[k]?=some (.map []))(hn:g.φ k=none) :
  ∃v w' g',(∀(K:Act→World→Prop) (Q:Exit→Act→World→Prop),K (a.put o.dst v) w'→o.wpIn (Fw r) 0 P a w K Q)∧Le g w g' w'∧SR w0 g' H w'∧VR g' w' (.map k) v∧∀b,g.φ b=none→b≠k→g'.φ b=none:=by
 obtain⟨dst,op,ty,pos,after,guard⟩:=o
 simp only at hm hc
 have hc:=gT hc
 unfold uw at hm
 split at hm
 ·simp[a7]at hc
 ·rename_i t _
  obtain⟨le,sr⟩:=h.yR (H':=H) (b:=k) hk hn (fun b' x _ hx=>hx) (Nat.le_refl _)
  refine⟨.map (some w.heap.size),_,_,fun K Q hk=>⟨fun _ _=>trivial,?_⟩,le,sr,.map (r:=w.heap.size) (o:=0) (q:=0) (by simp[Ctx.at]),fun b hb aY=>by simp only[Ctx.at,Ctx.row];rw[if_neg aY];exact hb⟩
  rw[Oper.semAt_eq _ _ _ (by rintro c⟨⟩)]
  have bG:(execOp a.eval ⟨dst,.makeMap t none,ty,pos,after,guard⟩).run P w=.ok (.value (.map (some w.heap.size))) (w.alloc (.map #[] 0)):=by
   simp[execOp,Instr.makeMap]
  rw[bG]
  exact hk
 ·cases hm
end
theorem Fr.ext (g:Ctx)(H l:ae):Fr g H g (H++l):=⟨by simp,fun b x hx _ hn=>⟨iv hx,hn⟩⟩
structure Dr (P:Program)(n:Nat)(ops:Array Oper)(mu:Nat→Bool)(w0:World)(df:List Deferred)(mk:T)(g0:Ctx)(ws:World)(H0:ae)
  (pre:List It) (L:Array Bool) (g:Ctx) (R:ax) (H:ae) (a:Act) (w:World):Prop where
 uB:L.size=ops.size
 cmp:∀y∈pre,∃o,ops[y.i]?=some o∧(∃st,dL P n ops (mu y.i) o st=some y.o)∧y.ts=tmpsOf o y.o.op y.o.g
 rd:∀y∈pre,∀z∈pre,z.early=true→∀d,z.o.d=some d→d∈y.ts→((dp ops.toList []).getD y.i 0).testBit z.i=true
 dd:∀y∈pre,∀z∈pre,∀d,y.o.d=some d→z.o.d=some d→y.i=z.i
 kl:∀y∈pre,y.early=true→∀o,ops[y.i]?=some o→C1 y.o=.make→uw o.op=true
 uniq:∀y∈pre,∀z∈pre,y.i=z.i→y=z
 pd:∀y∈pre,∀o,ops[y.i]?=some o→∀j∈bK o,j<y.i
 closed:∀i o,ops[i]?=some o→L.getD i false=true→∀j∈bK o,j<i∧L.getD j false=true
 sub:∀i,L.getD i false=true→∃y∈pre,y.i=i
 ob:∀y∈pre,y.early=false→L.getD y.i false=true
 sr:SR w0 g H w
 le:Le g0 ws g w
 fr:Fr g0 H0 g H
 qN:a.tmps.size=n
 qO:∀t,t<n→(∀y∈pre,L.getD y.i false=false→y.o.d≠some t)→VR g w (R t) (a.tmps.getD t undef)
 cL:∀y∈pre,L.getD y.i false=false→pc g H0.length R H y
 inj:∀y∈pre,∀z∈pre,L.getD y.i false=false→L.getD z.i false=false→y.i≠z.i→∀k,iA R y=some k→iA R z≠some k
 FP:a.defers=df
 FQ:R n=mk
section
variable {P:Program} {n:Nat} {ops:Array Oper} {mu:Nat→Bool} {w0 w ws:World} {df:List Deferred} {mk:T} {g g0:Ctx} {H H0 H':ae} {pre:List It} {L:Array Bool} {R:ax} {a:Act} {r:Option Nat}
theorem jJ {i:Nat}(h:i∈Region.ready .any ops L):L.getD i false=false∧∃o,ops[i]?=some o∧∀j∈bK o,L.getD j false=true:=by
 obtain⟨h1,o,h2,h3⟩:=mem_ready.1 h
 refine⟨?_,o,h2,fun j hj=>?_⟩
 ·cases hi:L[i]? with
  | none=>simp[Array.getD_eq_getD_getElem?,hi]at h1
  | some b=>simp[Array.getD_eq_getD_getElem?,hi]at h1 ⊢;exact h1
 ·simp only[bK,List.mem_map,List.mem_filter]at hj
  obtain⟨e,⟨he,hb⟩,rfl⟩:=hj
  exact h3 e (by simpa using he) hb
theorem Dr.bit (h:Dr P n ops mu w0 df mk g0 ws H0 pre L g R H a w){i:Nat}{o:Oper}{t:Nat}(ho:ops[i]?=some o)(hp:∀j∈bK o,j<i∧L.getD j false=true)
  (hb:((dp ops.toList []).getD i 0).testBit t=true):L.getD t false=true :=
 sC (D:=fun i=>L.getD i false=true) h.closed i o t ho hp hb
theorem cH {i j:Nat}(hi:i<L.size):(L.setIfInBounds i true).getD j false=if i=j then true else L.getD j false:=by
 by_cases e:i=j
 ·subst e;simp[Array.getD_eq_getD_getElem?,hi]
 ·rw[if_neg e,Array.getD_eq_getD_getElem?,Array.getD_eq_getD_getElem?,Array.getElem?_setIfInBounds_ne e]
theorem fw {o:Oper}{y:It}(h:y.ts=tmpsOf o y.o.op y.o.g):(∀t∈jY y.o.g,t∈y.ts)∧(∀t∈su y.o.op,t∈y.ts)∧∀t∈dz o.op.operands.toList,t∈y.ts:=by
 rw[h];unfold tmpsOf
 exact⟨fun t ht=>by simp[ht],fun t ht=>by simp[ht],fun t ht=>by simp[ht]⟩
theorem Dr.look (h:Dr P n ops mu w0 df mk g0 ws H0 pre L g R H a w){i:Nat}{o:Oper}{ts:List Nat}(ho:ops[i]?=some o)(hp:∀j∈bK o,j<i∧L.getD j false=true)(hn:∀t∈ts,t<n)
  (hz:∀z∈pre,z.early=true→∀d,z.o.d=some d→d∈ts→((dp ops.toList []).getD i 0).testBit z.i=true):eM g w R a ts:=by
 intro t ht
 refine h.qO t (hn t ht) fun z oW hu hd=>?_
 cases he:z.early with
 | false=>rw[h.ob z oW he]at hu;cases hu
 | true=>rw[h.bit ho hp (hz z oW he t hd ht)]at hu;cases hu
theorem Dr.late (h:Dr P n ops mu w0 df mk g0 ws H0 pre L g R H a w){y:It}(hy:y∈pre)(hr:y.i∈Region.ready .any ops L) :
  ∃v w' g',(∀(K:Act→World→Prop) (Q:Exit→Act→World→Prop),K (a.put y.o.d v) w'→wpOpIn (Fw r) 0 P ops Q y.i K a w) ∧
   Dr P n ops mu w0 df mk g0 ws H0 pre (L.setIfInBounds y.i true) g' R H (a.put y.o.d v) w':=by
 obtain⟨HC,o,ho,OA⟩:=jJ hr
 obtain⟨o',ky,⟨st,dn⟩,yf⟩:=h.cmp y hy
 rw[ho]at ky;cases ky
 obtain⟨op,gd,Jq,RQ,HD,OB,Jr⟩:=aR dn
 have hd:y.o.d=o.dst:=by rw[HD]
 have Ka:y.o.op=op:=by rw[HD]
 have OC:y.o.g=gd:=by rw[HD]
 obtain⟨Tg,VJ,Th⟩:=fw yf
 have hp:∀j∈bK o,j<y.i∧L.getD j false=true:=fun j hj=>⟨h.pd y hy o ho j hj,OA j hj⟩
 have l9:eM g w R a y.ts:=h.look ho hp (fun t ht=>OB t (by rw[yf,Ka,OC]at ht;exact ht)) (h.rd y hy)
 have NA:Region.wanted o (yielded ops a.tmps)=aV R y.o.g:=by
  rw[OC];exact my RQ h.qN (fun t ht=>OB t (by simp[tmpsOf,ht])) (l9.sub (by rw[←OC];exact Tg))
 have lB:y.i<L.size:=by rw[h.uB];exact(Array.getElem?_eq_some_iff.1 ho).1
 have OD:∀e,y.o.d=some e→e<a.tmps.size:=fun e he=>by rw[h.qN];exact Jr e (hd▸he)
 have jc:∀v w' g',Le g w g' w'→SR w0 g' H w'→(∀d,y.o.d=some d→VR g' w' (R d) v)→Fr g0 H0 g' H→(∀z∈pre,L.getD z.i false=false→z.i≠y.i→pc g' H0.length R H z) →
   Dr P n ops mu w0 df mk g0 ws H0 pre (L.setIfInBounds y.i true) g' R H (a.put y.o.d v) w':=by
  intro v w' g' le sr hv fr Kb
  refine { uB:=(by simp[h.uB]),cmp:=h.cmp,rd:=h.rd,dd:=h.dd,kl:=h.kl,uniq:=h.uniq,pd:=h.pd,closed:=?_,sub:=?_,ob:=?_,sr:=sr,le:=h.le.trans le,fr:=fr,qN:=(by rw[oa];exact h.qN),qO:=?_,cL:=?_,inj:=?_,FP:=(by rw[fN];exact h.FP),FQ:=h.FQ }
  ·intro i oi HE uC j hj
   rw[cH lB]at uC ⊢
   by_cases e:y.i=i
   ·subst e;rw[ho]at HE;cases HE
    obtain⟨h1,h2⟩:=hp j hj
    exact⟨h1,by split<;>simp[h2]⟩
   ·rw[if_neg e]at uC
    obtain⟨h1,h2⟩:=h.closed i oi HE uC j hj
    exact⟨h1,by split<;>simp[h2]⟩
  ·intro i uC
   rw[cH lB]at uC
   by_cases e:y.i=i
   ·exact⟨y,hy,e⟩
   ·rw[if_neg e]at uC;exact h.sub i uC
  ·intro z hz he
   rw[cH lB]
   split
   ·rfl
   ·exact h.ob z hz he
  ·intro t ht jn
   rw[n9 _ _ _ _ OD]
   split
   ·rename_i e;exact hv t e
   ·rename_i e
    refine(h.qO t ht fun z hz hu nr=>?_).mono le
    by_cases ez:y.i=z.i
    ·rw[h.uniq y hy z hz ez]at e;exact e nr
    ·exact jn z hz (by rw[cH lB,if_neg ez];exact hu) nr
  ·intro z hz hu
   rw[cH lB]at hu
   by_cases ez:y.i=z.i
   ·rw[if_pos ez]at hu;cases hu
   ·rw[if_neg ez]at hu;exact Kb z hz hu (Ne.symm ez)
  ·intro z hz z' oW hu zl
   rw[cH lB]at hu zl
   by_cases ez:y.i=z.i
   ·rw[if_pos ez]at hu;cases hu
   ·by_cases RR:y.i=z'.i
    ·rw[if_pos RR]at zl;cases zl
    ·rw[if_neg ez]at hu;rw[if_neg RR]at zl;exact h.inj z hz z' oW hu zl
 have zm:∀g',Fr g H g' H→∀z∈pre,L.getD z.i false=false→z.i≠y.i→pc g' H0.length R H z:=fun g' fr z hz hu _ =>
  (h.cL z hz hu).mono (fun _ _=>rfl) (fun _ _=>rfl) (fun _ _=>rfl) (fun _ _ _ _ _ _ e=>e) (fun k x _ hx Ee hn _=>fr.2 k x hx Ee hn)
 rcases h.cL y hy HC with⟨hw,hu⟩|⟨hw,d,b,oc,lZ,gU⟩
 ·refine⟨undef,w,g,fun K Q hk=>?_,jc undef w g (.refl _ _) h.sr (fun d e=>by rw[hu d e];exact fM) h.fr (zm g (.refl _ _))⟩
  unfold wpOpIn
  simp only[ho,NA,hw]
  rw[hd]at hk
  exact⟨fun _ _=>trivial,hk⟩
 ·have HF:bg P (mu y.i) o.op=some (.b b):=by rw[←lZ,Ka];exact Jq
  rcases gU with⟨hk,he⟩|⟨k,z,rfl,e1,e2,e3,e4⟩|⟨k,rfl,e1,e2,e3,e4⟩
  ·obtain⟨v,w',g',hs,le,sr,hv,fr⟩:=zj (r:=r) HF h.sr (l9.sub Th) he
   refine⟨v,w',g',fun K Q bE=>?_,jc v w' g' le sr (fun d' e=>by rw[oc]at e;cases e;exact hv) (h.fr.trans fr) (zm g' fr)⟩
   unfold wpOpIn
   simp only[ho,NA,hw,if_true]
   exact hs K Q (by rw[←hd];exact bE)
  ·-- a variable RS hO place
   have HG:y.early=true:=by cases he:y.early with|true=>rfl|false=>rw[h.ob y hy he]at HC;cases HC
   have rJ:=h.kl y hy HG o ho (by simp[C1,lZ,oc,mw])
   obtain⟨v,w',g',hs,le,sr,hv,hφ⟩:=sE (r:=r) (a:=a) rJ HF h.sr e2 e3
   have Js:iA R y=some k:=by simp[iA,oc,lZ,e1,kc]
   refine⟨v,w',g',fun K Q bE=>?_,jc v w' g' le sr (fun d' e=>by rw[oc]at e;cases e;rw[e1];exact hv) ⟨h.fr.1,fun b x hx Ee hb=>?_⟩ fun z' oW zl aY=>?_⟩
   ·unfold wpOpIn
    simp only[ho,NA,hw,if_true]
    exact hs K Q (by rw[←hd];exact bE)
   ·obtain⟨f1,f2⟩:=h.fr.2 b x hx Ee hb
    exact⟨f1,hφ b f2 (by have:=(List.getElem?_eq_some_iff.1 hx).1;omega)⟩
   ·exact(h.cL z' oW zl).mono (fun _ _=>rfl) (fun _ _=>rfl) (fun _ _=>rfl) (fun _ _ _ _ _ _ e=>e) fun k' x DC hx _ hn _ =>
     ⟨hx,hφ k' hn (by rintro rfl;exact h.inj y hy z' oW HC zl (Ne.symm aY) k' Js DC)⟩
  ·have HG:y.early=true:=by cases he:y.early with|true=>rfl|false=>rw[h.ob y hy he]at HC;cases HC
   have rJ:=h.kl y hy HG o ho (by simp[C1,lZ,oc,mw])
   obtain⟨v,w',g',hs,le,sr,hv,hφ⟩:=xp (r:=r) (a:=a) rJ HF h.sr e2 e3
   have Js:iA R y=some k:=by simp[iA,oc,lZ,e1,kc]
   refine⟨v,w',g',fun K Q bE=>?_,jc v w' g' le sr (fun d' e=>by rw[oc]at e;cases e;rw[e1];exact hv) ⟨h.fr.1,fun b x hx Ee hb=>?_⟩ fun z' oW zl aY=>?_⟩
   ·unfold wpOpIn
    simp only[ho,NA,hw,if_true]
    exact hs K Q (by rw[←hd];exact bE)
   ·obtain⟨f1,f2⟩:=h.fr.2 b x hx Ee hb
    exact⟨f1,hφ b f2 (by have:=(List.getElem?_eq_some_iff.1 hx).1;omega)⟩
   ·exact(h.cL z' oW zl).mono (fun _ _=>rfl) (fun _ _=>rfl) (fun _ _=>rfl) (fun _ _ _ _ _ _ e=>e) fun k' x DC hx _ hn _ =>
     ⟨hx,hφ k' hn (by rintro rfl;exact h.inj y hy z' oW HC zl (Ne.symm aY) k' Js DC)⟩
end
structure Hd (P:Program)(n:Nat)(ops:Array Oper)(mu:Nat→Bool)(pre:List It)(x:It)(o:Oper):Prop where
 ho:ops[x.i]?=some o
 co:dL P n ops (mu x.i) o x.o.m7=some x.o
 ts:x.ts=tmpsOf o x.o.op x.o.g
 st:x.early=false→x.o.m7=gG ((dp ops.toList []).getD x.i 0) pre
 pred:∀j∈bK o,j<x.i∧∃z∈pre,z.i=j
 Ti:∀z∈pre,z.early=true∨((dp ops.toList []).getD x.i 0).testBit z.i=true
 ne:∀z∈pre,z.i≠x.i
 dst:∀d,x.o.d=some d→(∀z∈pre,z.o.d≠some d∧(d∈z.ts→x.early=false∧((dp ops.toList []).getD x.i 0).testBit z.i=true))∧d∉x.ts
 OF:∀z∈pre,∀d,z.o.d=some d→d∈x.ts→((dp ops.toList []).getD x.i 0).testBit z.i=true
 kl:x.early=true→C1 x.o≠.FO∧(C1 x.o=.make→uw o.op=true)
theorem xq {P:Program}{n:Nat}{ops:Array Oper}{mu:Nat→Bool}{pre:List It}{y:Nat×Bool}{x:It}(h:ux P n ops mu ((dp ops.toList []).getD y.1 0) pre y=some x):∃o,Hd P n ops mu pre x o:=by
 unfold ux at h
 generalize rH:(dp ops.toList []).getD y.1 0=bs at h
 cases ho:ops[y.1]? with
 | none=>simp[ho]at h
 | some o =>
  rw[ho]at h;dsimp only at h
  cases hc:dL P n ops (mu y.1) o (if y.2=true then []else gG bs pre)with
  | none=>rw[hc]at h;cases h
  | some o' =>
   rw[hc]at h;dsimp only at h
   split at h
   ·rename_i hk
    cases h
    subst rH
    have ji:o'.m7=if y.2=true then []else gG ((dp ops.toList []).getD y.1 0) pre:=by
     obtain⟨op,gd,_,_,e,_⟩:=aR hc;rw[e]
    simp only[zh,Bool.and_eq_true,List.all_eq_true,decide_eq_true_eq,List.any_eq_true,beq_iff_eq,Bool.or_eq_true,bne_iff_ne,ne_eq,Bool.not_eq_true']at hk
    obtain⟨⟨⟨⟨⟨k1,k2⟩,k3⟩,k4⟩,k5⟩,k6⟩:=hk
    refine⟨o,ho,by rw[ji];exact hc,rfl,fun he=>by simp only at he;rw[ji,he];rfl,k1,k2,k3,fun d hd=>?_,fun z hz d hd ht=>?_,fun he=>?_⟩
    ·simp only at hd
     rw[hd]at k4
     simp only[List.all_eq_true,Bool.and_eq_true,bne_iff_ne,ne_eq,Bool.or_eq_true,Bool.not_eq_true',List.contains_eq_mem,decide_eq_false_iff_not,decide_eq_true_eq]at k4
     exact⟨fun z hz=>⟨(k4.1 z hz).1,fun ht=>((k4.1 z hz).2.resolve_left (fun hn=>hn ht))⟩,k4.2⟩
    ·have:=k5 z hz
     rw[hd]at this
     simp only[Bool.or_eq_true,Bool.not_eq_true',List.contains_eq_mem,decide_eq_false_iff_not]at this
     exact this.resolve_left (fun hn=>hn ht)
    ·rcases k6 with k6|k6
     ·have FG:y.2=true:=he
      rw[FG]at k6;cases k6
     ·exact⟨k6.1,fun hm=>k6.2.resolve_left (fun hn=>hn hm)⟩
   ·cases h
theorem iB {P:Program}{n:Nat}{ops:Array Oper}{mu:Nat→Bool}{pre:List It}{y:Nat×Bool}{ord:List (Nat×Bool)}{hO:List It}(h:cP P n ops mu (dp ops.toList []) pre (y :: ord)=some hO) :
  ∃x l o,hO=x :: l∧Hd P n ops mu pre x o∧cP P n ops mu (dp ops.toList []) (pre++[x]) ord=some l:=by
 simp only[cP]at h
 split at h
 ·rename_i x hx
  simp only[Option.map_eq_some_iff]at h
  obtain⟨l,h1,rfl⟩:=h
  obtain⟨o,ho⟩:=xq hx
  exact⟨x,l,o,rfl,ho,h1⟩
 ·cases h
theorem bP {P:Program}{n:Nat}{ops:Array Oper}{mu:Nat→Bool}:∀(ord:List (Nat×Bool)) (pre hO:List It),cP P n ops mu (dp ops.toList []) pre ord=some hO→∀i,i<ops.size→∃y∈pre++hO,y.i=i
 | [],pre,hO,h,i,hi=>by
  simp only[cP]at h
  split at h
  ·rename_i hk
   cases h
   simp only[List.all_eq_true,List.mem_range,List.any_eq_true,beq_iff_eq]at hk
   simpa using hk i hi
  ·cases h
 | y :: ord,pre,hO,h,i,hi=>by
  obtain⟨x,l,o,rfl,_,h2⟩:=iB h
  simpa using bP ord (pre++[x]) l h2 i hi
theorem b9 {P:Program}{n:Nat}{ops:Array Oper}{mu:Nat→Bool}:∀(ord:List (Nat×Bool)) (pre hO:List It),cP P n ops mu (dp ops.toList []) pre ord=some hO→∀y∈hO,(∃o,ops[y.i]?=some o∧(∀j∈bK o,j<y.i))∧∀z∈pre,z.early=true∨((dp ops.toList []).getD y.i 0).testBit z.i=true
 | [],pre,hO,h,y,hy=>by
  simp only[cP]at h
  split at h
  ·cases h;cases hy
  ·cases h
 | u :: ord,pre,hO,h,y,hy=>by
  obtain⟨x,l,o,rfl,h1,h2⟩:=iB h
  rcases List.mem_cons.1 hy with rfl|hy
  ·exact⟨⟨o,h1.ho,fun j hj=>(h1.pred j hj).1⟩,h1.Ti⟩
  ·obtain⟨h3,h4⟩:=b9 ord (pre++[x]) l h2 y hy
   exact⟨h3,fun z hz=>h4 z (by simp[hz])⟩
theorem od {b:Nat}{y:It}{d:Nat}{op:Bo}:∀(pre:List It),y∈pre→y.early=true→y.o.d=some d→y.o.op=.b op→mw op=.read→b.testBit y.i=false→⟨d,op,y.o.g⟩∈gG b pre
 | [],h,_,_,_,_,_=>by cases h
 | z :: pre,h,h1,h2,h3,h4,h5=>by
  rcases List.mem_cons.1 h with rfl|h
  ·simp[gG,h1,h2,h3,h4,h5]
  ·have ih:=od pre h h1 h2 h3 h4 h5
   simp only[gG]
   split
   ·split
    ·exact List.mem_cons_of_mem _ ih
    ·exact ih
   ·exact ih
theorem fO {R R':ax}{y:It}(h:∀d,y.o.d=some d→R' d=R d):iA R' y=iA R y:=by
 unfold iA
 split
 ·rename_i d z h1 h2;simp only[h1,h2,h d h1]
 ·rename_i d h1 h2;simp only[h1,h2,h d h1]
 ·rfl
theorem pc.lt {g:Ctx}{N:Nat}{R:ax}{H:ae}{y:It}(h:pc g N R H y){k:Nat}(hm:iA R y=some k):k<H.length:=by
 unfold iA at hm
 rcases h with⟨_,h2⟩|⟨_,d,b,h2,h3,h4⟩
 ·split at hm
  ·rename_i d z h1 _;rw[h2 d h1]at hm;cases hm
  ·rename_i d h1 _;rw[h2 d h1]at hm;cases hm
  ·cases hm
 ·rw[h2,h3]at hm
  rcases h4 with⟨hk,he⟩|⟨k',z,rfl,e1,e2,e3,e4⟩|⟨k',rfl,e1,e2,e3,e4⟩
  ·cases b<;>simp[mw]at hk hm
  ·simp only[e1,kc,Option.some.injEq]at hm;subst hm;exact(List.getElem?_eq_some_iff.1 e2).1
  ·simp only[e1,kc,Option.some.injEq]at hm;subst hm;exact(List.getElem?_eq_some_iff.1 e2).1
section
variable {P:Program} {n:Nat} {ops:Array Oper} {mu:Nat→Bool} {w0 w w' ws:World} {df:List Deferred} {mk:T} {g g' g0:Ctx} {H H0 H':ae} {pre:List It} {L:Array Bool} {R:ax} {a:Act} {r:Option Nat} {x:It} {o:Oper}
theorem Dr.kF (h:Dr P n ops mu w0 df mk g0 ws H0 pre L g R H a w)(hd:Hd P n ops mu pre x o):L.getD x.i false=false:=by
 cases e:L.getD x.i false with
 | false=>rfl
 | true=>obtain⟨y,hy,e⟩:=h.sub x.i e;exact absurd e (hd.ne y hy)
theorem aL {α:Type}{y x:α}{l:List α}(h:y∈l++[x]):y∈l∨y=x:=by simpa using h
theorem Dr.take (h:Dr P n ops mu w0 df mk g0 ws H0 pre L g R H a w)(hd:Hd P n ops mu pre x o)(he:x.early=true){t:T}(hp:pc g H0.length (a0 R x.o.d t) H' x)
  (hH:H'=H∨∃B,H'=H++[B]∧((∃cs,B=.cells cs)∨∃es,B=.map es)) (hm:∀k,iA (a0 R x.o.d t) x=some k→H.length≤k):Dr P n ops mu w0 df mk g0 ws H0 (pre++[x]) L g (a0 R x.o.d t) H' a w:=by
 have Tj:=h.kF hd
 have jR:∀t:T,x.o.d≠some n:=fun _ e=>by
  obtain⟨op,gd,_,_,HD,_,Jr⟩:=aR hd.co
  have NB:x.o.d=o.dst:=by rw[HD]
  exact Nat.lt_irrefl n (Jr n (NB▸e))
 have yf:∀z∈pre,∀u∈z.ts,a0 R x.o.d t u=R u:=fun z hz u hu=>bF fun e=>by
  obtain⟨h1,_⟩:=((hd.dst u e).1 z hz).2 hu
  rw[he]at h1;cases h1
 have zn:∀z∈pre,∀d,z.o.d=some d→a0 R x.o.d t d=R d:=fun z hz d nr=>bF fun e=>((hd.dst d e).1 z hz).1 nr
 have OG:∃l,H'=H++l:=by
  rcases hH with rfl|⟨B,rfl,_⟩
  ·exact⟨[],by simp⟩
  ·exact⟨[B],rfl⟩
 obtain⟨l,hl⟩:=OG
 have NC:∀z∈pre,L.getD z.i false=false→pc g H0.length (a0 R x.o.d t) H' z:=fun z hz hu=>by
  obtain⟨oz,_,_,Jt⟩:=h.cmp z hz
  obtain⟨t1,t2,_⟩:=fw Jt
  refine(h.cL z hz hu).mono (fun u hu=>yf z hz u (t1 u hu)) (fun u hu=>yf z hz u (t2 u hu)) (zn z hz) (fun d b _ _ _ hk e=>?_) (fun k y _ hy _ hn _=>?_)
  ·subst hl;exact(jI hk e).2 l
  ·subst hl;exact⟨iv hy,hn⟩
 refine { uB:=h.uB,cmp:=?_,rd:=?_,dd:=?_,kl:=?_,uniq:=?_,pd:=?_,closed:=h.closed,sub:=fun i hi=>?_,ob:=?_,sr:=?_,le:=h.le,fr:=?_,qN:=h.qN,qO:=?_,cL:=?_,inj:=?_,FP:=h.FP,FQ:=(by rw[bF (jR t)];exact h.FQ) }
 ·intro y hy
  replace hy:=aL hy;rcases hy with hy|rfl
  ·exact h.cmp y hy
  ·exact⟨o,hd.ho,⟨_,hd.co⟩,hd.ts⟩
 ·intro y hy z hz Kc d nr HH
  replace hy:=aL hy;rcases hy with hy|rfl
  ·replace hz:=aL hz;rcases hz with hz|rfl
   ·exact h.rd y hy z hz Kc d nr HH
   ·obtain⟨h1,_⟩:=((hd.dst d nr).1 y hy).2 HH
    rw[he]at h1;cases h1
  ·replace hz:=aL hz;rcases hz with hz|rfl
   ·exact hd.OF z hz d nr HH
   ·exact absurd HH (hd.dst d nr).2
 ·intro y hy z hz d Ef nr
  replace hy:=aL hy;rcases hy with hy|rfl
  ·replace hz:=aL hz;rcases hz with hz|rfl
   ·exact h.dd y hy z hz d Ef nr
   ·exact absurd Ef ((hd.dst d nr).1 y hy).1
  ·replace hz:=aL hz;rcases hz with hz|rfl
   ·exact absurd nr ((hd.dst d Ef).1 z hz).1
   ·rfl
 ·intro y hy vK o' ky
  replace hy:=aL hy;rcases hy with hy|rfl
  ·exact h.kl y hy vK o' ky
  ·rw[hd.ho]at ky;cases ky;exact(hd.kl vK).2
 ·intro y hy z hz e
  replace hy:=aL hy;rcases hy with hy|rfl
  ·replace hz:=aL hz;rcases hz with hz|rfl
   ·exact h.uniq y hy z hz e
   ·exact absurd e (hd.ne y hy)
  ·replace hz:=aL hz;rcases hz with hz|rfl
   ·exact absurd e.symm (hd.ne z hz)
   ·rfl
 ·intro y hy o' ky j hj
  replace hy:=aL hy;rcases hy with hy|rfl
  ·exact h.pd y hy o' ky j hj
  ·rw[hd.ho]at ky;cases ky;exact(hd.pred j hj).1
 ·obtain⟨y,hy,e⟩:=h.sub i hi
  exact⟨y,by simp[hy],e⟩
 ·intro y hy vK
  replace hy:=aL hy;rcases hy with hy|rfl
  ·exact h.ob y hy vK
  ·rw[he]at vK;cases vK
 ·rcases hH with rfl|⟨B,rfl,hB⟩
  ·exact h.sr
  ·exact h.sr.Oz hB
 ·subst hl;exact h.fr.trans (Fr.ext g H l)
 ·intro u hu jn
  rw[bF (jn x (by simp) Tj)]
  exact h.qO u hu fun y hy pf=>jn y (by simp[hy]) pf
 ·intro y hy pf
  replace hy:=aL hy;rcases hy with hy|rfl
  ·exact NC y hy pf
  ·exact hp
 ·intro y hy z hz pf sg aY k hk r6
  replace hy:=aL hy;rcases hy with hy|rfl
  ·rw[fO (zn y hy)]at hk
   replace hz:=aL hz;rcases hz with hz|rfl
   ·rw[fO (zn z hz)]at r6
    exact h.inj y hy z hz pf sg aY k hk r6
   ·have h1:=(h.cL y hy pf).lt hk
    have h2:=hm k r6
    omega
  ·replace hz:=aL hz;rcases hz with hz|rfl
   ·rw[fO (zn z hz)]at r6
    have h1:=(h.cL z hz sg).lt r6
    have h2:=hm k hk
    omega
   ·exact aY rfl
theorem Dr.both (h:Dr P n ops mu w0 df mk g0 ws H0 pre L g R H a w)(hd:Hd P n ops mu pre x o)(he:x.early=false)(hp:∀j∈bK o,L.getD j false=true){t:T}{v:Value}(le:Le g w g' w')(sr:SR w0 g' H' w')(hv:VR g' w' t v)(fr:Fr g H g' H')
  (hs:∀y∈pre,L.getD y.i false=false→∀d b,aV R y.o.g=true→y.o.d=some d→y.o.op=.b b→mw b=.read→av R H b=some (R d,H)→av R H' b=some (R d,H')) :
  Dr P n ops mu w0 df mk g0 ws H0 (pre++[x]) (L.setIfInBounds x.i true) g' (a0 R x.o.d t) H' (a.put x.o.d v) w':=by
 have lB:x.i<L.size:=by rw[h.uB];exact(Array.getElem?_eq_some_iff.1 hd.ho).1
 have Nu:∀j∈bK o,j<x.i∧L.getD j false=true:=fun j hj=>⟨(hd.pred j hj).1,hp j hj⟩
 obtain⟨op,gd,Jq,RQ,HD,OB,Jr⟩:=aR hd.co
 have NB:x.o.d=o.dst:=by rw[HD]
 have OD:∀e,x.o.d=some e→e<a.tmps.size:=fun e h1=>by rw[h.qN];exact Jr e (NB▸h1)
 have yf:∀z∈pre,L.getD z.i false=false→∀u∈z.ts,a0 R x.o.d t u=R u:=fun z hz hu u Tk=>bF fun e=>by
  obtain⟨_,h2⟩:=((hd.dst u e).1 z hz).2 Tk
  rw[h.bit hd.ho Nu h2]at hu;cases hu
 have zn:∀z∈pre,∀d,z.o.d=some d→a0 R x.o.d t d=R d:=fun z hz d nr=>bF fun e=>((hd.dst d e).1 z hz).1 nr
 refine { uB:=(by simp[h.uB]),cmp:=?_,rd:=?_,dd:=?_,kl:=?_,uniq:=?_,pd:=?_,closed:=?_,sub:=?_,ob:=?_,sr:=sr,le:=h.le.trans le,fr:=h.fr.trans fr,qN:=(by rw[oa];exact h.qN),qO:=?_,cL:=?_,inj:=?_,FP:=(by rw[fN];exact h.FP),FQ:=(by rw[bF (fun e=>Nat.lt_irrefl n (Jr n (NB▸e)))];exact h.FQ) }
 ·intro y hy
  replace hy:=aL hy;rcases hy with hy|rfl
  ·exact h.cmp y hy
  ·exact⟨o,hd.ho,⟨_,hd.co⟩,hd.ts⟩
 ·intro y hy z hz Kc d nr HH
  replace hz:=aL hz;rcases hz with hz|rfl
  ·replace hy:=aL hy;rcases hy with hy|rfl
   ·exact h.rd y hy z hz Kc d nr HH
   ·exact hd.OF z hz d nr HH
  ·rw[he]at Kc;cases Kc
 ·intro y hy z hz d Ef nr
  replace hy:=aL hy;rcases hy with hy|rfl
  ·replace hz:=aL hz;rcases hz with hz|rfl
   ·exact h.dd y hy z hz d Ef nr
   ·exact absurd Ef ((hd.dst d nr).1 y hy).1
  ·replace hz:=aL hz;rcases hz with hz|rfl
   ·exact absurd nr ((hd.dst d Ef).1 z hz).1
   ·rfl
 ·intro y hy vK o' ky
  replace hy:=aL hy;rcases hy with hy|rfl
  ·exact h.kl y hy vK o' ky
  ·rw[he]at vK;cases vK
 ·intro y hy z hz e
  replace hy:=aL hy;rcases hy with hy|rfl
  ·replace hz:=aL hz;rcases hz with hz|rfl
   ·exact h.uniq y hy z hz e
   ·exact absurd e (hd.ne y hy)
  ·replace hz:=aL hz;rcases hz with hz|rfl
   ·exact absurd e.symm (hd.ne z hz)
   ·rfl
 ·intro y hy o' ky j hj
  replace hy:=aL hy;rcases hy with hy|rfl
  ·exact h.pd y hy o' ky j hj
  ·rw[hd.ho]at ky;cases ky;exact(hd.pred j hj).1
 ·intro i oi HE uC j hj
  rw[cH lB]at uC ⊢
  by_cases e:x.i=i
  ·subst e
   rw[hd.ho]at HE;cases HE
   obtain⟨h1,h2⟩:=Nu j hj
   exact⟨h1,by split<;>simp[h2]⟩
  ·rw[if_neg e]at uC
   obtain⟨h1,h2⟩:=h.closed i oi HE uC j hj
   exact⟨h1,by split<;>simp[h2]⟩
 ·intro i uC
  rw[cH lB]at uC
  by_cases e:x.i=i
  ·exact⟨x,by simp,e⟩
  ·rw[if_neg e]at uC
   obtain⟨y,hy,e⟩:=h.sub i uC
   exact⟨y,by simp[hy],e⟩
 ·intro y hy vK
  rw[cH lB]
  split
  ·rfl
  ·rename_i aY
   replace hy:=aL hy;rcases hy with hy|rfl
   ·exact h.ob y hy vK
   ·exact absurd rfl aY
 ·intro u hu jn
  rw[n9 _ _ _ _ OD]
  split
  ·rename_i e;rw[e,gA];exact hv
  ·rename_i e
   rw[bF e]
   exact(h.qO u hu fun y hy pf=>jn y (by simp[hy]) (by rw[cH lB,if_neg (Ne.symm (hd.ne y hy))];exact pf)).mono le
 ·intro y hy pf
  rw[cH lB]at pf
  split at pf
  ·cases pf
  ·rename_i aY
   replace hy:=aL hy;rcases hy with hy|rfl
   ·obtain⟨oz,_,_,Jt⟩:=h.cmp y hy
    obtain⟨t1,t2,_⟩:=fw Jt
    exact(h.cL y hy pf).mono (fun u hu=>yf y hy pf u (t1 u hu)) (fun u hu=>yf y hy pf u (t2 u hu)) (zn y hy) (hs y hy pf) (fun k z _ hz Ee hn _=>fr.2 k z hz Ee hn)
   ·exact absurd rfl aY
 ·intro y hy z hz pf sg aY k hk r6
  rw[cH lB]at pf sg
  split at pf
  ·cases pf
  ·split at sg
   ·cases sg
   ·rename_i Tm Hs
    replace hy:=aL hy;rcases hy with hy|rfl
    ·replace hz:=aL hz;rcases hz with hz|rfl
     ·rw[fO (zn y hy)]at hk
      rw[fO (zn z hz)]at r6
      exact h.inj y hy z hz pf sg aY k hk r6
     ·exact absurd rfl Hs
    ·exact absurd rfl Tm
theorem Dr.init (sr:SR w0 g H w)(hn:a.tmps.size=n)(rJ:R n=mk)(hr:∀t,t<n→VR g w (R t) (a.tmps.getD t undef))(le:Le g0 ws g w)(fr:Fr g0 H0 g H):Dr P n ops mu w0 a.defers mk g0 ws H0 [] (Array.replicate ops.size false) g R H a w:=by
 have hf:∀i,(Array.replicate ops.size false).getD i false=false:=fun i=>by
  rw[Array.getD_eq_getD_getElem?,Array.getElem?_replicate];split<;>rfl
 refine { uB:=by simp,cmp:=(by simp),rd:=(by simp),dd:=(by simp),kl:=(by simp),uniq:=(by simp),pd:=(by simp),closed:=fun i o _ h=>?_,sub:=fun i h=>?_,ob:=(by simp),sr:=sr,le:=le,fr:=fr,qN:=hn,qO:=fun t ht _=>hr t ht,cL:=(by simp),inj:=(by simp),FP:=rfl,FQ:=rJ }
 ·rw[hf]at h;cases h
 ·rw[hf]at h;cases h
end
section
variable {P:Program} {w0 w:World} {g:Ctx} {H H':ae} {R:ax} {a:Act} {n:Nat} {ops:Array Oper}
def gV:Bo→Bool
 | .l7 _ _ _ _=>true
 | _=>false
theorem fb {b:Bo}(h:gV b=false){neg:Bool}{c:C8}{x y:X}:b≠.l7 neg c x y:=by rintro rfl;cases h
theorem zo {ty:TypeId}{x:X}{b:Bo}(h:pJ P ty x=some b):gV b=false:=by
 unfold pJ at h;(repeat' split at h)<;>cases h<;>rfl
theorem pR {ty:TypeId}{x:X}{f:Nat}{ad:Bool}{b:Bo}(h:kD P ty x f ad=some b):gV b=false:=by
 unfold kD at h;(repeat' split at h)<;>cases h<;>rfl
theorem vL {ty:TypeId}{x i:X}{ad:Bool}{b:Bo}(h:ur P ty x i ad=some b):gV b=false:=by
 unfold ur at h;(repeat' split at h)<;>first|(cases h<;>rfl)|(simp only[Option.map_eq_some_iff]at h;obtain⟨_,_,h⟩:=h;cases h;rfl)
theorem xr {ty:TypeId}{x:X}{lo hi mx:Option X}{b:Bo}(h:ml P ty x lo hi mx=some b):gV b=false:=by
 unfold ml at h;(repeat' split at h)<;>cases h<;>rfl
theorem Eg {ty:TypeId}{x:X}{lo hi mx:Option X}{b:Bo}(h:xg P ty x lo hi mx=some b):gV b=false:=by
 unfold xg at h
 split at h
 ·simp only[Option.map_eq_some_iff]at h;obtain⟨_,_,h⟩:=h;cases h;rfl
 ·cases h
theorem zp {src dst:TypeId}{x:X}{b:Bo}(h:pK P src dst x=some b):gV b=false:=by
 unfold pK at h;(repeat' split at h)<;>cases h<;>rfl
theorem uD {mu:Bool}{gw:List TypeId}{as:List X}{b:Bo}(h:jF P mu gw as=some b):gV b=false:=by
 unfold jF at h;(repeat' split at h)<;>cases h<;>rfl
theorem Eh {gw:List TypeId}{as:List X}{b:Bo}(h:sk P gw as=some b):gV b=false:=by
 unfold sk at h;(repeat' split at h)<;>cases h<;>rfl
theorem sF {mu:Bool}{bt:Builtin}{gw:List TypeId}{as:List X}{b:Bo}(h:gS P mu bt gw as=some b):gV b=false:=by
 unfold gS at h
 split at h
 ·split at h
  ·rename_i b' hz;cases h;exact Eh hz
  ·exact uD h
 all_goals (repeat' split at h)<;>first|(cases h<;>rfl)|(simp only[Option.map_eq_some_iff]at h;obtain⟨_,_,h⟩:=h;cases h;rfl)
theorem xu {ty:TypeId}{ps:List (Nat×X)}{b:Bo}(h:mm P ty ps=some b):gV b=false:=by
 unfold mm at h;(repeat' split at h)<;>cases h<;>rfl
theorem Ei {mu:Bool}{ty:TypeId}{n:Nat}{ps:List (Nat×X)}{b:Bo}(h:xh P mu ty n ps=some b):gV b=false:=by
 cases mu<;>unfold xh at h<;>(repeat' split at h)<;>cases h<;>rfl
theorem Ej {mu:Bool}{ty:TypeId}{l c:X}{b:Bo}(h:xi P mu ty l c=some b):gV b=false:=by
 unfold xi at h;(repeat' split at h)<;>cases h<;>rfl
theorem uE {mu:Bool}{op:Op}{neg:Bool}{x y:X}(h:a7 P mu op=some (.l7 neg .slice x y)) :
  ∃Ju ty ox oy yt e,op=.binOp Ju ty ox oy yt∧aH ox=some x∧aH oy=some y∧P.underlying ty=some (.slice e)∧Ju=(if neg then .neq else .eql):=by
 cases op<;>simp only[a7,Option.map_eq_some_iff,Option.bind_eq_some_iff]at h
 case binOp Ju ty ox oy yt =>
  cases h1:aH ox with
  | none=>simp[h1]at h
  | some x'=>cases h2:aH oy with
   | none=>simp[h1,h2]at h
   | some y' =>
    simp only[h1,h2]at h
    unfold y8 at h
    split at h
    ·cases h
    ·cases h
    ·simp only[Option.map_eq_some_iff]at h;obtain⟨_,_,h⟩:=h;cases h
    ·split at h
     ·split at h<;>cases h
     ·cases h
    ·rename_i d _ _ _ _ hu
     split at h
     ·rename_i n' c hn lg
      cases h
      refine⟨Ju,ty,ox,oy,yt,?_⟩
      cases d<;>simp[cls]at lg
      exact⟨_,rfl,h1,h2,hu,by cases Ju<;>simp[isEq]at hn<;>subst hn<;>rfl⟩
     ·cases h
    ·cases h
 case load=>obtain⟨_,_,h⟩:=h;exact absurd rfl (fb (zo h))
 case fieldAddr=>obtain⟨_,_,h⟩:=h;exact absurd rfl (fb (pR h))
 case field=>obtain⟨_,_,h⟩:=h;exact absurd rfl (fb (pR h))
 case indexAddr=>split at h;exact absurd rfl (fb (vL h));cases h
 case index=>split at h;exact absurd rfl (fb (vL h));cases h
 case slice =>
  split at h
  ·split at h
   ·exact absurd rfl (fb (Eg h))
   ·exact absurd rfl (fb (xr h))
  ·cases h
 case convert=>obtain⟨_,_,h⟩:=h;exact absurd rfl (fb (zp h))
 case build=>obtain⟨_,_,h⟩:=h;exact absurd rfl (fb (xu h))
 case buildSlice=>obtain⟨_,_,h⟩:=h;exact absurd rfl (fb (Ei h))
 case makeSlice=>split at h;exact absurd rfl (fb (Ej h));cases h
 case call c =>
  obtain⟨callee,args,gw⟩:=c
  cases callee
  case builtin=>simp only[a7,Option.bind_eq_some_iff]at h;obtain⟨_,_,h⟩:=h;exact absurd rfl (fb (sF h))
  case value cv =>
   cases cv<;>simp only[a7]at h<;>(try (cases h;done))
   split at h<;>cases h
  all_goals simp[a7]at h
 case makeMap t r=>cases r<;>simp[a7]at h
 case next it str=>cases str<;>simp[a7]at h
 case range ty m=>split at h;(simp only[Option.map_eq_some_iff]at h;obtain⟨_,_,h⟩:=h;cases h);cases h
 case makeFunc f first ja =>
  cases f<;>simp only[a7]at h
  case func f =>
   split at h
   ·simp only[Option.map_eq_some_iff]at h;obtain⟨_,_,h⟩:=h;cases h
   ·cases h
  all_goals cases h
 all_goals first
  | (cases h;done)
  | (obtain⟨_,_,h⟩:=h;cases h;done)
  | ((repeat' split at h)<;>first|(cases h;done)|(simp only[Option.map_eq_some_iff]at h;obtain⟨_,_,h⟩:=h;cases h;done))
  | (simp only[Option.map_eq_some_iff]at h;obtain⟨_,_,h⟩:=h;cases h)
  | skip
theorem xv {ty e:TypeId}{ox oy:Operand}{ad:Option Addr}{l p:Nat}{neg:Bool}(hu:P.underlying ty=some (.slice e)) :
  (do eqGuard (if neg then .neq else .eql) ty ox oy (.slice ad l p) (.slice none 0 0);binOp (if neg then .neq else .eql) ty (.slice ad l p) (.slice none 0 0)).run P w=.ok (.bool (if neg then !ad.isNone else ad.isNone)) w:=by
 have k1:∀op,(eqGuard op ty ox oy (.slice ad l p) (.slice none 0 0)).run P w=.ok () w:=fun op=>rV
 have k2:(Op.equal ty (.slice ad l p) (.slice none 0 0)).run P w=.ok ad.isNone w:=eK fun n=>by
  rw[Op.equalIn];simp only[Sem.run_bind,run_underlying hu,Result.andThen_ok]
  cases ad<;>simp_all
 have k3:∀neg:Bool,(binOp (if neg then .neq else .eql) ty (.slice ad l p) (.slice none 0 0)).run P w=((Op.equal ty (.slice ad l p) (.slice none 0 0)).run P w).andThen fun b w'=>.ok (.bool (if neg then !b else b)) w':=fun neg=>by cases neg<;>simp[binOp]
 simp only[Sem.run_bind,k1,Result.andThen_ok,k3,k2]
theorem xw {r:Option Nat}{mu:Bool}{o:Oper}{neg:Bool}{x y:X}(hc:bg P mu o.op=some (.b (.l7 neg .slice x y)))(hr:eM g w R a (dz o.op.operands.toList))
  (hx:x.ev R=.sl .arg []) (hy:y.ev R=.sl .nil []):∃b:Bool,∀(K:Act→World→Prop) (Q:Exit→Act→World→Prop),K (a.put o.dst (.bool b)) w→o.wpIn (Fw r) 0 P a w K Q:=by
 have jR:=fE hc
 obtain⟨Ju,ty,ox,oy,yt,e,ho,h1,h2,hu,rfl⟩:=uE (gT hc)
 have RT:=pQ hr
 have v1:=RT ox (by rw[ho];simp[Op.operands]) x h1
 have v2:=RT oy (by rw[ho];simp[Op.operands]) y h2
 rw[hx]at v1
 rw[hy]at v2
 generalize h3:a.eval ox=vx at v1
 generalize h4:a.eval oy=vy at v2
 have e2:vy=.slice none 0 0:=by
  cases v2 with
  | slnil=>rfl
  | sl b6 hk=>exact hk.elim
 subst e2
 obtain⟨ad,l,p,rfl⟩:∃ad l p,vx=.slice ad l p:=by cases v1<;>exact⟨_,_,_,rfl⟩
 refine⟨if neg then !ad.isNone else ad.isNone,fun K Q hk=>⟨fun _ _=>trivial,?_⟩⟩
 rw[Oper.semAt_eq _ _ _ jR]
 have bG:(execOp a.eval o).run P w=.ok (.value (.bool (if neg then !ad.isNone else ad.isNone))) w:=by
  have:=xv (P:=P) (w:=w) (ox:=ox) (oy:=oy) (ad:=ad) (l:=l) (p:=p) (neg:=neg) hu
  simp only[execOp,ho,h3,h4]
  rw[Sem.run_bind,this]
  rfl
 rw[bG]
 exact hk
end
def fP (g:Ctx)(w:World)(n:Nat)(R:ax)(a:Act):Prop:=a.tmps.size=n∧∀t,t<n→VR g w (R t) (a.tmps.getD t undef)
def pg:Exit→Option Ex
 | .normal=>some .normal
 | .exit id=>some (.exit id)
 | .ret=>some .ret
 | _=>none
def uF (w0:World)(n:Nat)(df:List Deferred)(mk:T)(g:Ctx)(w:World)(H:ae)(Q:Out→ae→Prop):Exit→Act→World→Prop:=fun e a' w' =>
 ∃ex R' g' H',pg e=some ex∧Q (.ex ex R') H'∧Le g w g' w'∧SR w0 g' H' w'∧fP g' w' n R' a'∧Fr g H g' H'∧a'.defers=df∧R' n=mk
def pS (w0:World)(g:Ctx)(w:World)(H:ae)(Q:T→ae→Prop):Ending→World→Prop:=fun e w' =>
 ∃v t g' H',e=.returned v∧Q t H'∧Le g w g' w'∧SR w0 g' H' w'∧VR g' w' t v∧Fr g H g' H'
structure sG (P:Program)(E:Env):Prop where
 mixed:P.follows .mixedOrders=true
 fn:∀f fn,E.fn f=some fn→∃an,au P an f=some fn
 l8:∀f as H Q,E.l8 f as H Q→∀w0 g w args,SR w0 g H w→a6 g w as args→cG P f=true∧CallsIn (Fw none) 0 P f args.toArray w (pS w0 g w H Q)
inductive sH (g:Ctx):List T→List Deferred→Prop
 | nil:sH g [] []
 | cons {b r o q ts df} (h:g.φ b=some (r,o,q)) (hs:sH g ts df):sH g (.ptr b 0 :: ts) ({ target:=.collected r,args:=#[] } :: df)
theorem sH.mono {g g':Ctx}{w w':World}(le:Le g w g' w'){ts:List T}{df:List Deferred}(h:sH g ts df):sH g' ts df:=by
 induction h with
 | nil=>exact .nil
 | cons h _ ih=>exact .cons (le.φ _ _ h) ih
def Mk (g:Ctx)(t:T)(df:List Deferred):Prop:=∃ts,t=.bC ts∧sH g ts df
theorem Mk.mono {g g':Ctx}{w w':World}(le:Le g w g' w'){t:T}{df:List Deferred}(h:Mk g t df):Mk g' t df:=let ⟨ts,e,h⟩:=h;⟨ts,e,h.mono le⟩
def jo (w0:World)(n:Nat)(hr:Bool)(df:List Deferred)(mk:T)(g:Ctx)(w:World)(H:ae)(Q:Out→ae→Prop):Exit→Act→World→Prop:=fun e a' w' =>
 ∃ex R' g' H',pg e=some ex∧Q (.ex ex R') H'∧Le g w g' w'∧SR w0 g' H' w'∧fP g' w' n R' a'∧Fr g H g' H'∧(Mk g mk df→Mk g' (R' n) a'.defers)∧(hr=false→R' n=mk∧a'.defers=df)
def dY (P:Program)(g:Ctx):Prop:=∀n c k,g.ck n c k↔∃an,aZ P n an false k=some c
theorem dY.mono {P:Program}{g g':Ctx}{w w':World}(le:Le g w g' w')(h:dY P g):dY P g':=fun n c k=>by rw[le.ck];exact h n c k
def oe (F:Fence)(n:Nat)(P:Program)(c:Code)(Q:Exit→Act→World→Prop)(a:Act)(w:World):Prop :=
 ∀(b:Frame) (k:List Item) (cs:List Frame),b.roundOf=F.round→F.fn b.fn→F.room (cs.length+1+n) →
  ∃e a' w',Q e a' w'∧ArrivesIn (Machine.fenced P F) P (lone (b.atR a (.code c :: .inLoop c :: k)) cs w) b k cs e a' w'
theorem sI {F:Fence}{n:Nat}{P:Program}{c:Code}{Q:Exit→Act→World→Prop}{a:Act}{w:World}(h:c.wpIn F n P (Exit.then (oe F n P c Q) Q) a w):oe F n P c Q a w:=by
 intro b k cs ND hb hr
 obtain⟨e,a₁,w₁,hq,gR⟩:=h b (.inLoop c :: k) cs ND hb hr
 cases e with
 | normal =>
  obtain⟨e₂,a₂,w₂,Tn,Kd⟩:=hq b k cs ND hb hr
  exact⟨e₂,a₂,w₂,Tn,.of_steps (StepsIn.trans gR (.one (fenced_calm hb hr rfl) stepR_inLoop)) Kd⟩
 | exit id=>exact⟨_,a₁,w₁,hq,.pass (x:=.inLoop c) rfl (fun _ _=>.inl (by simp)) gR⟩
 | goto l=>exact⟨_,a₁,w₁,hq,.pass (x:=.inLoop c) rfl (fun _ _=>.inl (by simp)) gR⟩
 | ret=>exact⟨_,a₁,w₁,hq,.pass (x:=.inLoop c) rfl (fun _ _=>.inl (by simp)) gR⟩
 | panic ch=>exact⟨_,a₁,w₁,hq,.pass (x:=.inLoop c) rfl (fun _ _=>.inl (by simp)) gR⟩
 | outgrown=>exact⟨_,a₁,w₁,hq,.pass (x:=.inLoop c) rfl (fun _ _=>.inl (by simp)) gR⟩
theorem xy {F:Fence}{n:Nat}{P:Program}{c:Code}{Q:Exit→Act→World→Prop}{a:Act}{w:World}(h:oe F n P c Q a w):(Code.loop c).wpIn F n P Q a w :=
 fun b k cs ND hb hr=>let ⟨e,a',w',hq,gR⟩:=h b k cs ND hb hr;⟨e,a',w',hq,.of_steps (.one (fenced_calm hb hr rfl) stepR_loop) gR⟩
section
variable {P:Program} {w0 w ws:World} {g g0:Ctx} {H H0 H':ae} {R:ax} {a:Act} {n:Nat} {ops:Array Oper} {r:Option Nat} {mu:Bool} {i:Nat} {o:Oper} {st oX:List Rd}
theorem lF {y:O}(hc:dL P n ops mu o st=some y):∀t∈tmpsOf o y.op y.g,t<n:=by
 obtain⟨op,gd,_,_,rfl,h,_⟩:=aR hc;exact h
theorem vM {d:Option Nat}{op:FA}{gd:Gd}(ho:ops[i]?=some o)(hc:dL P n ops mu o st=some ⟨d,op,gd,oX⟩)(hn:a.tmps.size=n)(hr:eM g w R a (tmpsOf o op gd))(hw:aV R gd=false)
  {K:Act→World→Prop} {Q:Exit→Act→World→Prop} (hk:K (a.put d undef) w):wpOpIn (Fw r) 0 P ops Q i K a w:=by
 obtain⟨HI,HJ,h1,h2,h3,h4,h5⟩:=aR hc
 cases h3
 unfold wpOpIn
 simp only[ho,my h2 hn (fun t ht=>h4 t (by simp[tmpsOf,ht])) (hr.sub fun t ht=>by simp[tmpsOf,ht]),hw]
 exact⟨fun _ _=>trivial,hk⟩
theorem fF {d:Option Nat}{op:FA}{gd:Gd}(ho:ops[i]?=some o)(hc:dL P n ops mu o st=some ⟨d,op,gd,oX⟩)(hn:a.tmps.size=n)(hr:eM g w R a (tmpsOf o op gd))(hw:aV R gd=true)
  {K:Act→World→Prop} {Q:Exit→Act→World→Prop} (hk:o.wpIn (Fw r) 0 P a w K Q):wpOpIn (Fw r) 0 P ops Q i K a w:=by
 obtain⟨HI,HJ,h1,h2,h3,h4,h5⟩:=aR hc
 cases h3
 unfold wpOpIn
 simp only[ho,my h2 hn (fun t ht=>h4 t (by simp[tmpsOf,ht])) (hr.sub fun t ht=>by simp[tmpsOf,ht]),hw,if_true]
 exact hk
theorem jK {op:FA}{gd:Gd}(hr:eM g w R a (tmpsOf o op gd)):eM g w R a (dz o.op.operands.toList):=hr.sub fun t ht=>by simp[tmpsOf,ht]
theorem qP {d:Option Nat}{b:Bo}{gd:Gd}{t:T}(ho:ops[i]?=some o)(hc:dL P n ops mu o st=some ⟨d,.b b,gd,oX⟩)(hn:a.tmps.size=n)(hr:eM g w R a (tmpsOf o (.b b) gd))(hw:aV R gd=true)
  (h:SR w0 g H w) (he:av R H b=some (t,H')) :
  ∃v w' g',(∀(K:Act→World→Prop) (Q:Exit→Act→World→Prop),K (a.put d v) w'→wpOpIn (Fw r) 0 P ops Q i K a w)∧Le g w g' w'∧SR w0 g' H' w'∧VR g' w' t v∧Fr g H g' H':=by
 obtain⟨HI,HJ,h1,h2,h3,h4,h5⟩:=aR hc
 cases h3
 obtain⟨v,w',g',hs,rest⟩:=zj (r:=r) h1 h (jK hr) he
 exact⟨v,w',g',fun K Q hk=>fF ho hc hn hr hw (hs K Q hk),rest⟩
theorem sJ {d:Option Nat}{x:X}{gd:Gd}{b bi:Nat}{es:List (T×T)}{ix:List Nat}{cur:Option Nat}(ho:ops[i]?=some o)(hc:dL P n ops mu o st=some ⟨d,.b (.ni x),gd,oX⟩)(hn:a.tmps.size=n)(hr:eM g w R a (tmpsOf o (.b (.ni x)) gd))(hw:aV R gd=true)
  (h:SR w0 g H w) (hx:x.ev R=.ptr bi 0) (hb:H[b]?=some (.eH es ix bi cur)) :
  ∃t H' v w' g',kY H b bi es ix t H'∧(∀(K:Act→World→Prop) (Q:Exit→Act→World→Prop),K (a.put d v) w'→wpOpIn (Fw r) 0 P ops Q i K a w)∧Le g w g' w'∧SR w0 g' H' w'∧VR g' w' t v∧Fr g H g' H':=by
 obtain⟨HI,HJ,h1,h2,h3,h4,h5⟩:=aR hc
 cases h3
 obtain⟨t,H',v,w',g',Ee,hs,rest⟩:=zk (r:=r) h1 h (jK hr) hx hb
 exact⟨t,H',v,w',g',Ee,fun K Q hk=>fF ho hc hn hr hw (hs K Q hk),rest⟩
theorem pT {d:Option Nat}{neg:Bool}{x y:X}{gd:Gd}(ho:ops[i]?=some o)(hc:dL P n ops mu o st=some ⟨d,.b (.l7 neg .slice x y),gd,oX⟩)(hn:a.tmps.size=n)(hr:eM g w R a (tmpsOf o (.b (.l7 neg .slice x y)) gd))(hw:aV R gd=true)
  (hx:x.ev R=.sl .arg []) (hy:y.ev R=.sl .nil []):∃b:Bool,∀(K:Act→World→Prop) (Q:Exit→Act→World→Prop),K (a.put d (.bool b)) w→wpOpIn (Fw r) 0 P ops Q i K a w:=by
 obtain⟨HI,HJ,h1,h2,h3,h4,h5⟩:=aR hc
 cases h3
 obtain⟨b,hs⟩:=xw (r:=r) h1 (jK hr) hx hy
 exact⟨b,fun K Q hk=>fF ho hc hn hr hw (hs K Q hk)⟩
theorem pU {d:Option Nat}{f:Nat}{as:List X}{gd:Gd}{M:T→ae→Prop}(ho:ops[i]?=some o)(hc:dL P n ops mu o st=some ⟨d,.call f as,gd,oX⟩)(hn:a.tmps.size=n)(hr:eM g w R a (tmpsOf o (.call f as) gd))(hw:aV R gd=true)
  (ih:∀args,a6 g w (as.map (X.ev R)) args→cG P f=true∧CallsIn (Fw none) 0 P f args.toArray w (pS w0 g w H M)) {K:Act→World→Prop} {Q:Exit→Act→World→Prop}
  (hk:∀v w' g' H' t,M t H'→Le g w g' w'→SR w0 g' H' w'→VR g' w' t v→Fr g H g' H'→K (a.put d v) w'):wpOpIn (Fw r) 0 P ops Q i K a w:=by
 obtain⟨HI,HJ,h1,h2,h3,h4,h5⟩:=aR hc
 cases h3
 obtain⟨args,hv,hs⟩:=xo (r:=r) h1 (jK hr)
 obtain⟨k1,k2⟩:=ih args hv
 exact fF ho hc hn hr hw (hs K Q k1 (k2.mono fun e w' ⟨v,t,g',H',he,hM,le,sr,dC,fr⟩=>⟨v,he,hk v w' g' H' t hM le sr dC fr⟩))
theorem og {d:Option Nat}{x:X}{f:Nat}{cs:List T}{as:List X}{gd:Gd}{M:T→ae→Prop}(ho:ops[i]?=some o)(hc:dL P n ops mu o st=some ⟨d,.cq x as,gd,oX⟩)(hn:a.tmps.size=n)(hr:eM g w R a (tmpsOf o (.cq x as) gd))(hw:aV R gd=true)
  (hx:x.ev R=.fn f cs) (ih:∀args,a6 g w (as.map (X.ev R)++cs) args→cG P f=true∧CallsIn (Fw none) 0 P f args.toArray w (pS w0 g w H M)) {K:Act→World→Prop} {Q:Exit→Act→World→Prop}
  (hk:∀v w' g' H' t,M t H'→Le g w g' w'→SR w0 g' H' w'→VR g' w' t v→Fr g H g' H'→K (a.put d v) w'):wpOpIn (Fw r) 0 P ops Q i K a w:=by
 obtain⟨HI,HJ,h1,h2,h3,h4,h5⟩:=aR hc
 cases h3
 obtain⟨args,hv,hs⟩:=uA (r:=r) h1 (jK hr) hx
 obtain⟨k1,k2⟩:=ih args hv
 exact fF ho hc hn hr hw (hs K Q k1 (k2.mono fun e w' ⟨v,t,g',H',he,hM,le,sr,dC,fr⟩=>⟨v,he,hk v w' g' H' t hM le sr dC fr⟩))
theorem fP.put {d:Option Nat}{v:Value}{t:T}{w':World}{g':Ctx}(h:fP g w n R a)(hd:∀e,d=some e→e<n)(le:Le g w g' w')(hv:VR g' w' t v):fP g' w' n (a0 R d t) (a.put d v):=by
 refine⟨by rw[oa];exact h.1,fun u hu=>?_⟩
 rw[n9 _ _ _ _ (by rw[h.1];exact hd)]
 split
 ·rename_i e;rw[e,gA];exact hv
 ·rename_i e;rw[bF e];exact(h.2 u hu).mono le
theorem fP.rg (h:fP g w n R a){ts:List Nat}(ht:∀t∈ts,t<n):eM g w R a ts:=fun t hm=>h.2 t (ht t hm)
end
section
variable {P:Program} {n:Nat} {ops:Array Oper} {mu:Nat→Bool} {w0 ws:World} {df:List Deferred} {mk:T} {g0:Ctx} {H0:ae} {pre:List It} {r:Option Nat} {x:It} {o:Oper} {Q:Out→ae→Prop}
def left (L:Array Bool):Nat:=L.toList.count false
theorem oh {L:Array Bool}{i:Nat}(hi:i<L.size)(hf:L.getD i false=false):left (L.setIfInBounds i true)+1=left L:=by
 unfold left
 rw[Array.toList_setIfInBounds,List.count_set (by simpa using hi)]
 have hg:L.toList[i]'(by simpa using hi)=false:=by
  rw[Array.getD_eq_getD_getElem?,Array.getElem?_eq_getElem hi,Option.getD_some]at hf
  simpa using hf
 have uq:0<L.toList.count false:=List.count_pos_iff.2 (hg▸List.getElem_mem _)
 rw[hg]
 have e1:((false==false:Bool)=true):=rfl
 have e2:¬((true==false:Bool)=true):=by decide
 rw[if_pos e1,if_neg e2]
 omega
theorem pV {L:Array Bool}(h:left L=0){i:Nat}(hi:i<L.size):L.getD i false=true:=by
 cases e:L.getD i false with
 | true=>rfl
 | false=>have:=oh hi e;omega
theorem pW {L:Array Bool}(aQ:L.size=ops.size)(HA:∀i o,ops[i]?=some o→∀j∈bK o,j<i)(h:Region.ready .any ops L=[]):∀i,i<ops.size→L.getD i false=true:=by
 intro i
 induction i using Nat.strongRecOn with
 | _ i ih =>
  intro hi
  cases e:L.getD i false with
  | true=>rfl
  | false =>
   have:i∈Region.ready .any ops L:=by
    rw[mem_ready]
    refine⟨?_,ops[i],Array.getElem?_eq_getElem hi,fun ed he hb=>?_⟩
    ·have lY:i<L.size:=by omega
     rw[Array.getD_eq_getD_getElem?,Array.getElem?_eq_getElem lY]at e ⊢;exact e
    ·have hj:ed.on∈bK ops[i]:=by simp only[bK,List.mem_map,List.mem_filter];exact⟨ed,⟨by simpa using he,hb⟩,rfl⟩
     have:=HA i _ (Array.getElem?_eq_getElem hi) _ hj
     exact ih _ this (by omega)
   rw[h]at this;cases this
theorem xz {R:ax}{H:ae}(cj:∀i,i<ops.size→∃y∈pre,y.i=i)(hQ:Q (.ex .normal R) H):∀(fuel:Nat) (L:Array Bool) (g:Ctx) (a:Act) (w:World),left L≤fuel→Dr P n ops mu w0 df mk g0 ws H0 pre L g R H a w →
  wpAnyIn (Fw r) 0 P .any ops (uF w0 n df mk g0 ws H0 Q) fuel L a w:=by
 have fin:∀(L:Array Bool) (g:Ctx) (a:Act) (w:World),Dr P n ops mu w0 df mk g0 ws H0 pre L g R H a w→(∀i,i<ops.size→L.getD i false=true)→uF w0 n df mk g0 ws H0 Q .normal a w:=by
  intro L g a w h hl
  refine⟨.normal,R,g,H,rfl,hQ,h.le,h.sr,⟨h.qN,fun t ht=>h.qO t ht fun y hy hu=>?_⟩,h.fr,h.FP,h.FQ⟩
  obtain⟨o,ho,_⟩:=h.cmp y hy
  rw[hl y.i (Array.getElem?_eq_some_iff.1 ho).1]at hu;cases hu
 have HA:∀(L:Array Bool) (g:Ctx) (a:Act) (w:World),Dr P n ops mu w0 df mk g0 ws H0 pre L g R H a w→∀i o,ops[i]?=some o→∀j∈bK o,j<i:=by
  intro L g a w h i o ho
  obtain⟨y,hy,rfl⟩:=cj i (Array.getElem?_eq_some_iff.1 ho).1
  exact h.pd y hy o ho
 intro fuel
 induction fuel with
 | zero =>
  intro L g a w hL h
  have hl:∀i,i<ops.size→L.getD i false=true:=fun i hi=>pV (by omega) (by rw[h.uB];exact hi)
  refine⟨?_,fin L g a w h hl⟩
  refine List.eq_nil_iff_forall_not_mem.2 fun i hi=>?_
  obtain⟨h1,o,h2,_⟩:=jJ hi
  rw[hl i (Array.getElem?_eq_some_iff.1 h2).1]at h1;cases h1
 | succ fuel ih =>
  intro L g a w hL h
  refine⟨fun hr=>fin L g a w h (pW h.uB (HA L g a w h) hr),fun i hi=>?_⟩
  obtain⟨h1,o,h2,_⟩:=jJ hi
  have aE:=(Array.getElem?_eq_some_iff.1 h2).1
  obtain⟨y,hy,rfl⟩:=cj i aE
  obtain⟨v,w',g',hs,hd⟩:=h.late (r:=r) hy hi
  have:=oh (by rw[h.uB];exact aE) h1
  exact hs _ _ (ih _ _ _ _ (by omega) hd)
theorem cV {R:ax}{H:ae}{Tl:ax→ae→Prop}{Qx:Exit→Act→World→Prop}{l:List It}(hd:Hd P n ops mu pre x o)(hx:x.early=false)(cj:∀i,i<ops.size→∃y∈pre++x :: l,y.i=i)
  (Ke:∀y∈l,(∃o,ops[y.i]?=some o∧(∀j∈bK o,j<y.i))∧∀z∈pre++[x],z.early=true∨((dp ops.toList []).getD y.i 0).testBit z.i=true)
  (hT:∀R' H',Tl R' H'→∀fuel L' g' a' w',left L'≤fuel→Dr P n ops mu w0 df mk g0 ws H0 (pre++[x]) L' g' R' H' a' w'→wpAnyIn (Fw r) 0 P .any ops Qx fuel L' a' w')
  (hX:∀L g a w,Dr P n ops mu w0 df mk g0 ws H0 pre L g R H a w→(∀j∈bK o,L.getD j false=true)→∀K:Act→World→Prop,
   (∀R' H' g' a' w',Tl R' H'→Dr P n ops mu w0 df mk g0 ws H0 (pre++[x]) (L.setIfInBounds x.i true) g' R' H' a' w'→K a' w')→wpOpIn (Fw r) 0 P ops Qx x.i K a w) :
  ∀(fuel:Nat) (L:Array Bool) (g:Ctx) (a:Act) (w:World),left L≤fuel→Dr P n ops mu w0 df mk g0 ws H0 pre L g R H a w→wpAnyIn (Fw r) 0 P .any ops Qx fuel L a w:=by
 have CZ:x.i<ops.size:=(Array.getElem?_eq_some_iff.1 hd.ho).1
 intro fuel
 induction fuel with
 | zero =>
  intro L g a w hL h
  have h1:=h.kF hd
  rw[pV (by omega) (by rw[h.uB];exact CZ)]at h1;cases h1
 | succ fuel ih =>
  intro L g a w hL h
  have G7:=h.kF hd
  refine⟨fun hr=>?_,fun i hi=>?_⟩
  ·have hl:=pW h.uB (fun i o' ky j hj=>?_) hr x.i CZ
   ·rw[hl]at G7;cases G7
   ·obtain⟨y,hy,rfl⟩:=cj i (Array.getElem?_eq_some_iff.1 ky).1
    rcases List.mem_append.1 hy with hy|hy
    ·exact h.pd y hy o' ky j hj
    ·rcases List.mem_cons.1 hy with rfl|hy
     ·rw[hd.ho]at ky;cases ky;exact(hd.pred j hj).1
     ·obtain⟨⟨o2,h2,h3⟩,_⟩:=Ke y hy
      rw[h2]at ky;cases ky;exact h3 j hj
  ·obtain⟨h1,o',h2,h3⟩:=jJ hi
   have aE:=(Array.getElem?_eq_some_iff.1 h2).1
   have To:=oh (by rw[h.uB];exact aE) h1
   obtain⟨y,hy,rfl⟩:=cj i aE
   rcases List.mem_append.1 hy with hy|hy
   ·obtain⟨v,w',g',hs,zq⟩:=h.late (r:=r) hy hi
    exact hs _ _ (ih _ _ _ _ (by omega) zq)
   ·rcases List.mem_cons.1 hy with rfl|hy
    ·rw[hd.ho]at h2;cases h2
     exact hX L g a w h h3 _ fun R' H' g' a' w' ht zq=>hT R' H' ht fuel _ g' a' w' (by omega) zq
    ·obtain⟨⟨o2,h4,h5⟩,h6⟩:=Ke y hy
     rw[h2]at h4;cases h4
     rcases h6 x (by simp)with h7|h7
     ·rw[hx]at h7;cases h7
     ·have:=h.bit h2 (fun j hj=>⟨h5 j hj,h3 j hj⟩) h7
      rw[G7]at this;cases this
end
def OH (P : Program) : J → ae → (Out → ae → Prop) → Prop
  | .code c R, H, Q => ∀(w0 : World) (g : Ctx) (w : World) (a : Act) (n : Nat) (an : An) (top : Bool) (code : Code) (r : Option Nat), aZ P n an top code = some c → (top = true → r = none) → dY P g → SR w0 g H w → fP g w n R a →
      code.wpIn (Fw r) 0 P (jo w0 n c.iR a.defers (R n) g w H Q) a w ∧ ∀body, code = .loop body → oe (Fw r) 0 P body (jo w0 n c.iR a.defers (R n) g w H Q) a w
  | .ops l R, H, Q => (∀(w0 : World) (g0 : Ctx) (ws : World) (H0 : ae) (g : Ctx) (w : World) (a : Act) (n : Nat) (ops : Array Oper) (mu : Nat → Bool) (is : List Nat) (r : Option Nat), eD P n ops mu is = some l → dY P g → SR w0 g H w → fP g w n R a →
        Le g0 ws g w → Fr g0 H0 g H → wpOpsIn (Fw r) 0 P ops (uF w0 n a.defers (R n) g0 ws H0 Q) is a w) ∧
      (∀(w0 : World) (n : Nat) (ops : Array Oper) (mu : Nat → Bool) (df : List Deferred) (mk : T) (g0 : Ctx) (ws : World) (H0 : ae) (pre : List It) (L : Array Bool) (g : Ctx) (a : Act) (w : World) (ord : List (Nat×Bool)) (hO : List It) (r : Option Nat) (fuel : Nat),
        dY P g → cP P n ops mu (dp ops.toList []) pre ord = some hO → hO.map (·.o) = l → Dr P n ops mu w0 df mk g0 ws H0 pre L g R H a w → left L ≤ fuel → wpAnyIn (Fw r) 0 P .any ops (uF w0 n df mk g0 ws H0 Q) fuel L a w)
  | .call f as, H, Q => ∀(w0 : World) (g : Ctx) (w : World) (args : List Value), dY P g → SR w0 g H w → a6 g w as args → cG P f = true ∧ CallsIn (Fw none) 0 P f args.toArray w (pS w0 g w H fun v H' => Q (.val v) H')
theorem jo.trans {w0 w w':World}{n:Nat}{hr jE:Bool}{df OI:List Deferred}{mk mk':T}{g g':Ctx}{H H':ae}{Q:Out→ae→Prop}(le:Le g w g' w')(fr:Fr g H g' H')(hm:Mk g mk df→Mk g' mk' OI)(hh:hr=false→jE=false∧mk'=mk∧OI=df)
  {e:Exit} {a:Act} {u:World} (h:jo w0 n jE OI mk' g' w' H' Q e a u):jo w0 n hr df mk g w H Q e a u:=by
 obtain⟨ex,R',g2,H2,h1,h2,h3,h4,h5,h6,h7,h8⟩:=h
 refine⟨ex,R',g2,H2,h1,h2,le.trans h3,h4,h5,fr.trans h6,fun m=>h7 (hm m),fun e=>?_⟩
 obtain⟨k1,k2,k3⟩:=hh e
 obtain⟨k4,k5⟩:=h8 k1
 exact⟨k4.trans k2,k5.trans k3⟩
theorem uF.RU {w0 w:World}{n:Nat}{hr:Bool}{df:List Deferred}{mk:T}{g:Ctx}{H:ae}{Q:Out→ae→Prop}{e:Exit}{a:Act}{u:World}(h:uF w0 n df mk g w H Q e a u):jo w0 n hr df mk g w H Q e a u:=by
 obtain⟨ex,R',g2,H2,h1,h2,h3,h4,h5,h6,h7,h8⟩:=h
 exact⟨ex,R',g2,H2,h1,h2,h3,h4,h5,h6,fun m=>by rw[h7,h8];exact m.mono h3,fun _=>⟨h8,h7⟩⟩
section
variable {P:Program} {n:Nat} {an:An} {top:Bool} {code:Code}
theorem zr (h:aZ P n an top code=some .skip):code=.skip:=by
 cases code<;>(try simp only[aZ]at h)
 case region id ops draw=>cases draw<;>simp only[aZ]at h<;>(repeat' split at h)<;>simp at h
 all_goals first|rfl|(cases h;done)|((repeat' split at h)<;>simp at h;done)|(simp at h;done)
theorem zs {id:Nat}(h:aZ P n an top code=some (.exit id)):code=.exit id:=by
 cases code<;>(try simp only[aZ]at h)
 case region id ops draw=>cases draw<;>simp only[aZ]at h<;>(repeat' split at h)<;>simp at h
 all_goals first|(cases h;rfl)|(cases h;done)|((repeat' split at h)<;>simp at h;done)|(simp at h;done)
theorem Ek (h:aZ P n an top code=some .ret):code=.ret:=by
 cases code<;>(try simp only[aZ]at h)
 case region id ops draw=>cases draw<;>simp only[aZ]at h<;>(repeat' split at h)<;>simp at h
 all_goals first|rfl|(cases h;done)|((repeat' split at h)<;>simp at h;done)|(simp at h;done)
theorem El {x y:C}(h:aZ P n an top code=some (.seq x y)):∃c d,code=.seq c d∧aZ P n an top c=some x∧aZ P n an top d=some y:=by
 cases code<;>(try simp only[aZ]at h)
 case region id ops draw=>cases draw<;>simp only[aZ]at h<;>(repeat' split at h)<;>simp at h
 case seq c d =>
  split at h
  ·rename_i h1 h2;cases h;exact⟨c,d,rfl,h1,h2⟩
  ·cases h
 all_goals first|(cases h;done)|((repeat' split at h)<;>simp at h;done)|(simp at h;done)
theorem zt {c:X}{x y:C}(h:aZ P n an top code=some (.cond c x y)):∃o d e,code=.cond o d e∧aH o=some c∧aZ P n an top d=some x∧aZ P n an top e=some y∧∀t,o=.tmp t→t<n:=by
 cases code<;>(try simp only[aZ]at h)
 case region id ops draw=>cases draw<;>simp only[aZ]at h<;>(repeat' split at h)<;>simp at h
 case cond o d e =>
  split at h
  ·rename_i h1 h2 h3
   cases o with
   | tmp t =>
    simp only[decide_eq_true_eq]at h
    split at h
    ·rename_i h4;cases h;exact⟨_,d,e,rfl,h1,h2,h3,fun t' ht=>by cases ht;exact h4⟩
    ·cases h
   | _=>simp at h;obtain⟨rfl,rfl,rfl⟩:=h;exact⟨_,d,e,rfl,h1,h2,h3,fun t ht=>by cases ht⟩
  ·cases h
 all_goals first|(cases h;done)|((repeat' split at h)<;>simp at h;done)|(simp at h;done)
theorem xA {id:Nat}{x:C}(h:aZ P n an top code=some (.block id x)):∃c,code=.block id c∧aZ P n an top c=some x:=by
 cases code<;>(try simp only[aZ]at h)
 case region id ops draw=>cases draw<;>simp only[aZ]at h<;>(repeat' split at h)<;>simp at h
 case block Tp c =>
  simp only[Option.map_eq_some_iff]at h
  obtain⟨x',h1,h2⟩:=h
  cases h2;exact⟨c,rfl,h1⟩
 all_goals first|(cases h;done)|((repeat' split at h)<;>simp at h;done)|(simp at h;done)
theorem zu {x:C}(h:aZ P n an top code=some (.loop x)):∃c,code=.loop c∧aZ P n an top c=some x:=by
 cases code<;>(try simp only[aZ]at h)
 case region id ops draw=>cases draw<;>simp only[aZ]at h<;>(repeat' split at h)<;>simp at h
 case loop c =>
  simp only[Option.map_eq_some_iff]at h
  obtain⟨x',h1,h2⟩:=h
  cases h2;exact⟨c,rfl,h1⟩
 all_goals first|(cases h;done)|((repeat' split at h)<;>simp at h;done)|(simp at h;done)
theorem xB {m:Nat}{x:X}{ps:List Nat}{y z:C}(h:aZ P n an top code=some (.cg m x ps y z)):∃g qs c d,code=.rangeFunc g qs c d∧aH g=some x∧aZ P n an false c=some y∧aZ P n an false d=some z∧top=true∧(∀t∈cy x,t<n)∧qs.toList=ps∧(∀p∈ps,p<n)∧m=n:=by
 cases code<;>(try simp only[aZ]at h)
 case region id ops draw=>cases draw<;>simp only[aZ]at h<;>(repeat' split at h)<;>simp at h
 case rangeFunc g qs c d =>
  split at h
  ·rename_i h1 h2 h3
   split at h
   ·rename_i h4
    cases h
    simp only[Bool.and_eq_true,List.all_eq_true,decide_eq_true_eq]at h4
    exact⟨g,qs,c,d,rfl,h1,h2,h3,h4.1.1,h4.1.2,rfl,h4.2,rfl⟩
   ·cases h
  ·cases h
 all_goals first|(cases h;done)|((repeat' split at h)<;>simp at h;done)|(simp at h;done)
theorem Em {l:List O}(h:aZ P n an top code=some (.ops l)):∃id ops mu,(code=.region id ops false∧eD P n ops mu (List.range ops.size)=some l) ∨
  (code=.region id ops true∧∃ord hO,cP P n ops mu (dp ops.toList []) [] ord=some hO∧hO.map (·.o)=l):=by
 cases code<;>(try simp only[aZ]at h)
 case region id ops draw =>
  cases draw<;>simp only[aZ]at h
  ·simp only[Option.map_eq_some_iff]at h
   obtain⟨l',h1,h2⟩:=h
   cases h2;exact⟨id,ops,_,.inl ⟨rfl,h1⟩⟩
  ·split at h
   ·rename_i ord _
    simp only[Option.map_eq_some_iff]at h
    obtain⟨hO,h1,h2⟩:=h
    cases h2;exact⟨id,ops,_,.inr ⟨rfl,ord,hO,h1,rfl⟩⟩
   ·cases h
 all_goals first|(cases h;done)|((repeat' split at h)<;>simp at h;done)|(simp at h;done)
end
theorem cd {P:Program}{n:Nat}{ops:Array Oper}{mu:Nat→Bool}{is:List Nat}{o:O}{l:List O}(h:eD P n ops mu is=some (o :: l)) :
  ∃i oY oper,is=i :: oY∧ops[i]?=some oper∧dL P n ops (mu i) oper []=some o∧eD P n ops mu oY=some l:=by
 cases is with
 | nil=>simp[eD]at h
 | cons i oY =>
  simp only[eD]at h
  split at h
  ·rename_i oper ho
   split at h
   ·rename_i h1 h2;cases h;exact⟨i,oY,oper,rfl,ho,h1,h2⟩
   ·cases h
  ·cases h
theorem sK {P:Program}{n:Nat}{ops:Array Oper}{mu:Nat→Bool}{is:List Nat}(h:eD P n ops mu is=some []):is=[]:=by
 cases is with
 | nil=>rfl
 | cons i oY =>
  simp only[eD]at h
  split at h
  ·split at h<;>simp at h
  ·cases h
theorem eN {P:Program}{n:Nat}{ops:Array Oper}{mu:Nat→Bool}{pre:List It}{ord:List (Nat×Bool)}{hO:List It}{o:O}{l:List O}(h:cP P n ops mu (dp ops.toList []) pre ord=some hO)(hm:hO.map (·.o)=o :: l) :
  ∃x l' dE oper,hO=x :: l'∧x.o=o∧l'.map (·.o)=l∧Hd P n ops mu pre x oper∧cP P n ops mu (dp ops.toList []) (pre++[x]) dE=some l':=by
 cases ord with
 | nil =>
  simp only[cP]at h
  split at h
  ·cases h;simp at hm
  ·cases h
 | cons y dE =>
  obtain⟨x,l',oper,rfl,h1,h2⟩:=iB h
  simp only[List.map_cons,List.cons.injEq]at hm
  exact⟨x,l',dE,oper,rfl,hm.1,hm.2,h1,h2⟩
section
variable {P:Program} {n:Nat} {ops:Array Oper} {mu:Nat→Bool} {w0 w ws:World} {df:List Deferred} {mk:T} {g g0:Ctx} {H H0 H':ae} {pre:List It} {L:Array Bool} {R:ax} {a:Act} {r:Option Nat} {x:It} {o:Oper}
theorem Hd.sub (hd:Hd P n ops mu pre x o)(v:T):(∀t∈jY x.o.g,a0 R x.o.d v t=R t)∧∀t∈su x.o.op,a0 R x.o.d v t=R t:=by
 obtain⟨t1,t2,_⟩:=fw hd.ts
 exact⟨fun t ht=>bF fun e=>(hd.dst t e).2 (t1 t ht),fun t ht=>bF fun e=>(hd.dst t e).2 (t2 t ht)⟩
theorem Dr.En (h:Dr P n ops mu w0 df mk g0 ws H0 pre L g R H a w)(hd:Hd P n ops mu pre x o)(he:x.early=true)(hw:aV R x.o.g=false):Dr P n ops mu w0 df mk g0 ws H0 (pre++[x]) L g (a0 R x.o.d aW) H a w:=by
 refine h.take hd he (.inl ⟨?_,fun d e=>by rw[e,gA]⟩) (.inl rfl) fun k hk=>?_
 ·rw[jm (R':=R) (hd.sub aW).1];exact hw
 ·unfold iA at hk
  split at hk
  ·rename_i e _;rw[e,gA]at hk;cases hk
  ·rename_i e _;rw[e,gA]at hk;cases hk
  ·cases hk
theorem Dr.Eo {b:Bo}{v:T}(h:Dr P n ops mu w0 df mk g0 ws H0 pre L g R H a w)(hd:Hd P n ops mu pre x o)(he:x.early=true)(hb:x.o.op=.b b)(hw:aV R x.o.g=true)(hv:av R H b=some (v,H')) :
  Dr P n ops mu w0 df mk g0 ws H0 (pre++[x]) L g (a0 R x.o.d v) H' a w:=by
 obtain⟨k1,k2⟩:=hd.kl he
 cases Ep:x.o.d with
 | none=>exact absurd (by simp[C1,hb,Ep]) k1
 | some d =>
  have OJ:C1 x.o=mw b:=by simp[C1,hb,Ep]
  rw[OJ]at k1 k2
  have um:aV (a0 R x.o.d v) x.o.g=true:=by rw[jm (R':=R) (hd.sub v).1];exact hw
  have Tq:∀H2,av (a0 R x.o.d v) H2 b=av R H2 b:=fun H2=>n8 fun t ht=>(hd.sub v).2 t (by rw[hb];exact ht)
  have OK:a0 R x.o.d v d=v:=by rw[Ep,gA]
  rw[←Ep]
  have hq:(mw b=.pure∨mw b=.read)→H'=H→Dr P n ops mu w0 df mk g0 ws H0 (pre++[x]) L g (a0 R x.o.d v) H' a w:=by
   rintro hk rfl
   refine h.take hd he (.inr ⟨um,d,b,Ep,hb,.inl ⟨hk,by rw[Tq,OK];exact hv⟩⟩) (.inl rfl) fun k hm=>?_
   unfold iA at hm
   rw[hb]at hm
   split at hm
   ·rename_i h1;cases h1;simp[mw]at hk
   ·rename_i h1;cases h1;simp[mw]at hk
   ·cases hm
  cases hk:mw b with
  | FO=>exact absurd hk k1
  | pure=>exact hq (.inl hk) (jH hk hv).1
  | read=>exact hq (.inr hk) (jI hk hv).1
  | make =>
   have RW:H0.length≤H.length:=h.fr.1
   cases b<;>simp only[mw]at hk<;>(try (cases hk;done))
   case l7=>split at hk<;>cases hk
   case alloc z =>
    simp only[av,Option.some.injEq,Prod.mk.injEq]at hv
    obtain⟨rfl,rfl⟩:=hv
    refine h.take hd he (.inr ⟨um,d,_,Ep,hb,.inr (.inl ⟨H.length,z,rfl,OK,dm _ _,h.sr.DE (Nat.le_refl _),RW⟩)⟩) (.inr ⟨_,rfl,.inl ⟨_,rfl⟩⟩) fun k hm=>?_
    simp only[iA,Ep,hb,gA,kc,Option.some.injEq]at hm
    omega
   case vg =>
    simp only[av,Option.some.injEq,Prod.mk.injEq]at hv
    obtain⟨rfl,rfl⟩:=hv
    refine h.take hd he (.inr ⟨um,d,_,Ep,hb,.inr (.inr ⟨H.length,rfl,OK,dm _ _,h.sr.DE (Nat.le_refl _),RW⟩)⟩) (.inr ⟨_,rfl,.inr ⟨_,rfl⟩⟩) fun k hm=>?_
    simp only[iA,Ep,hb,gA,kc,Option.some.injEq]at hm
    omega
theorem Dr.cW (h:Dr P n ops mu w0 df mk g0 ws H0 pre L g R H a w)(hd:Hd P n ops mu pre x o)(hp:∀j∈bK o,L.getD j false=true):eM g w R a (tmpsOf o x.o.op x.o.g) :=
 h.look hd.ho (fun j hj=>⟨(hd.pred j hj).1,hp j hj⟩) (lF hd.co) fun z hz _ d nr ht=>hd.OF z hz d nr (by rw[hd.ts];exact ht)
theorem Dr.stays (h:Dr P n ops mu w0 df mk g0 ws H0 pre L g R H a w)(hd:Hd P n ops mu pre x o)(he:x.early=false)(hp:∀j∈bK o,L.getD j false=true)(hs:eX R H' x.o.m7) :
  ∀y∈pre,L.getD y.i false=false→∀d b,aV R y.o.g=true→y.o.d=some d→y.o.op=.b b→mw b=.read→av R H b=some (R d,H)→av R H' b=some (R d,H'):=by
 intro y hy hu d b hw Ef Kf hk _
 have vK:y.early=true:=by cases e:y.early with|true=>rfl|false=>rw[h.ob y hy e]at hu;cases hu
 have OL:((dp ops.toList []).getD x.i 0).testBit y.i=false:=by
  cases e:((dp ops.toList []).getD x.i 0).testBit y.i with
  | false=>rfl
  | true=>rw[h.bit hd.ho (fun j hj=>⟨(hd.pred j hj).1,hp j hj⟩) e]at hu;cases hu
 have hm:=od pre hy vK Ef Kf hk OL
 rw[←hd.st he]at hm
 exact hs _ hm hw
end
theorem sL {g:Ctx}{w:World}{n:Nat}:∀(ps:List Nat) (vs:List T) (us:List Value) (R:ax) (tmps:Array Value),a6 g w vs us→vs.length=ps.length→tmps.size=n→(∀t,t<n→VR g w (R t) (tmps.getD t undef))→(∀p∈ps,p<n) →
  ((ps.zip us).foldl (fun tmps (t,a)=>tmps.setIfInBounds t a) tmps).size=n∧∀t,t<n→VR g w (kV R ps vs t) (((ps.zip us).foldl (fun tmps (t,a)=>tmps.setIfInBounds t a) tmps).getD t undef)
 | [],vs,us,R,tmps,hv,hl,hn,hr,_=>by
  cases vs with
  | nil=>exact⟨by simpa using hn,by simpa[kV]using hr⟩
  | cons _ _=>simp at hl
 | p :: ps,[],us,R,tmps,hv,hl,hn,hr,_=>by simp at hl
 | p :: ps,v :: vs,[],R,tmps,hv,hl,hn,hr,_=>by have:=hv.1;simp at this
 | p :: ps,v :: vs,u :: us,R,tmps,hv,hl,hn,hr,hp=>by
  simp only[List.zip_cons_cons,List.foldl_cons,kV]
  refine sL ps vs us (kQ R p v) (tmps.setIfInBounds p u) hv.tail (by simpa using hl) (by simpa using hn) (fun t ht=>?_) (fun q hq=>hp q (by simp[hq]))
  have kz:p<tmps.size:=by rw[hn];exact hp p (by simp)
  by_cases e:p=t
  ·subst e;simp only[kQ,if_true];rw[Array.getD_eq_getD_getElem?];simp[kz];exact hv.head
  ·simp only[kQ];rw[if_neg (Ne.symm e),Array.getD_eq_getD_getElem?,Array.getElem?_setIfInBounds_ne e,←Array.getD_eq_getD_getElem?];exact hr t ht
section
variable {P:Program} {w0 w ws:World} {g g0:Ctx} {H H0 H':ae} {R:ax} {a:Act} {n:Nat} {ops:Array Oper} {r:Option Nat} {mu:Bool} {i:Nat} {o:Oper} {st oX:List Rd}
theorem zw {e:Ex}(h:e≠.normal):(∃id,e=.exit id∧rT (some e)=some (.exit id))∨(e=.ret∧rT (some e)=some .ret):=by
 cases e with
 | normal=>exact absurd rfl h
 | exit id=>exact .inl ⟨id,rfl,rfl⟩
 | ret=>exact .inr ⟨rfl,rfl⟩
theorem sM {d:Option Nat}{x:X}{as:List X}{gd:Gd}{b m:Nat}{R0:ax}{ps:List Nat}{cf body:C}{M1 M:Out→ae→Prop}(ho:ops[i]?=some o)(hc:dL P n ops mu o st=some ⟨d,.cq x as,gd,oX⟩)(hn:a.tmps.size=n)(hr:eM g w R a (tmpsOf o (.cq x as) gd))(hw:aV R gd=true)
  (hx:x.ev R=.mQ b) (hb:H[b]?=some (.loop .ready none m R0 ps cf body)) (hlen:as.length=ps.length) (ck:dY P g) (sr:SR w0 g H w)
  (rK:OH P (.code cf (kV R0 ps (as.map (X.ev R)))) H M1) (pr:∀o H',M1 o H'→(∃R1,o=.ex .normal R1)∧H'[b]?=some (.loop .ready none m R0 ps cf body))
  (kS:∀R1 H1,M1 (.ex .normal R1) H1→OH P (.code body R1) (H1.set b (.loop .busy none m R0 ps cf body)) M) (nG:∀o H',M o H'→H'[b]?=some (.loop .busy none m R0 ps cf body))
  {K:Act→World→Prop} {Q:Exit→Act→World→Prop}
  (hk:∀v w' g' H' t,((∃R' H2,M (.ex .normal R') H2∧t=.bool true∧H'=H2.set b (.loop .ready none m R0 ps cf body))∨(∃e R' H2,M (.ex e R') H2∧e≠.normal∧t=.bool false∧H'=H2.set b (.loop .done (some e) m R0 ps cf body))) →
   Le g w g' w'→SR w0 g' H' w'→VR g' w' t v→Fr g H g' H'→K (a.put d v) w'):wpOpIn (Fw r) 0 P ops Q i K a w:=by
 obtain⟨HI,HJ,h1,h2,h3,h4,h5⟩:=aR hc
 cases h3
 refine fF ho hc hn hr hw ⟨fun _ _=>trivial,?_⟩
 have jR:=fE h1
 obtain⟨t,args,gw,rfl,Jq,h6⟩:=jZ h1
 have lG:=jK hr
 have hv:=et (ρ:=a.eval) args.toList as h6 (pQ (lG.sub fun t ht=>by
  simp only[dz,List.mem_filterMap]at ht ⊢
  obtain⟨x,hx,e⟩:=ht
  exact⟨x,by rw[Jq];simp only[Op.operands,Call.operands];simp at hx;simp[hx],e⟩))
 have hf:=lG t (by rw[Jq];simp only[dz,List.mem_filterMap];exact⟨.tmp t,by simp[Op.operands,Call.operands],rfl⟩)
 simp only[X.ev]at hx
 rw[hx]at hf
 generalize xl:a.tmps.getD t undef=vf at hf
 cases hf with
 | @mQ _ l o' q' hφ =>
  obtain⟨k1,rec,k2,k3,k4,k5,k6,k7,k8,k9,Ts⟩:=sr.gF b _ hb l o' q' hφ
  rw[Oper.semAt_eq _ _ _ jR]
  have aQ:(args.toList.map a.eval).toArray.size=rec.params.size:=by
   have:=hv.1;simp at this
   have e2:rec.params.size=ps.length:=by rw[←k5];simp
   simp[e2,←hlen,this]
  have bG:(execOp a.eval o).run P w=.ok (.round l rec.fn ((rec.params.zip (args.toList.map a.eval).toArray).foldl (fun tmps (t,a)=>tmps.setIfInBounds t a) rec.tmps) rec.assign rec.body) w:=by
   have hy:=run_yield (P:=P) (args:=(args.toList.map a.eval).toArray) k2 aQ
   have e2:(args.toList.map a.eval).toArray=args.map a.eval:=by rw[←Array.toList_map]
   rw[e2]at hy ⊢
   have e:a.eval (.tmp t)=.func (.yield l) #[] #[]:=xl
   simp only[execOp,Jq,resolve,e,Deferred.ofValue,invoke]
   simpa using hy
  rw[bG,Oper.uponIn_round]
  refine⟨fun h=>by simp[Fw]at h,roundIn_of_wpIn trivial ?_⟩
  have yf:(rec.params.zip (args.toList.map a.eval).toArray).foldl (fun tmps (t,a)=>tmps.setIfInBounds t a) rec.tmps=(ps.zip (args.toList.map a.eval)).foldl (fun tmps (t,a)=>tmps.setIfInBounds t a) rec.tmps:=by
   rw[←Array.foldl_toList,Array.toList_zip,k5]
  rw[yf]
  have qG:=sL ps (as.map (X.ev R)) (args.toList.map a.eval) R0 rec.tmps hv (by simpa using hlen) k6 k7 k8
  obtain⟨Tt,lz⟩:=(ck _ _ _).1 k9
  obtain⟨Tu,o8⟩:=(ck _ _ _).1 Ts
  refine wpIn_mono (rK w0 g w { tmps:=(ps.zip (args.toList.map a.eval)).foldl (fun tmps (t,a)=>tmps.setIfInBounds t a) rec.tmps,defers:=[] } m Tt false rec.assign (some l) lz (by simp) ck sr qG).1 fun e a1 w1 hp=>?_
  obtain⟨ex,R1,g1,H1,e1,hm,cO,Hv,yg,OM,-,-⟩:=hp
  obtain⟨⟨VK,Tv⟩,lZ⟩:=pr _ _ hm
  cases Tv
  cases e<;>simp only[pg,Option.some.injEq,reduceCtorEq]at e1
  have Jv:=cO.φ _ _ hφ
  obtain⟨j1,ON,j2,j3,j4,j5,j6,j7,j8,j9,RX⟩:=Hv.gF b _ lZ l o' q' Jv
  refine⟨_,run_beginRound j2 j3,?_⟩
  obtain⟨Er,FR,FT⟩:=Hv.qK (y':=.loop .busy none m R0 ps cf body) (x':=.loop { ON with state:=.busy }) lZ Jv j1 j2 rfl rfl (fun w' le um r o q hq=>by
   rw[Jv]at hq;cases hq
   exact⟨j1,_,um,rfl,j4,j5,j6,fun t ht=>(j7 t ht).mono le,j8,j9,RX⟩)
  refine wpIn_mono (kS _ _ hm w0 g1 _ a1 m Tu false rec.body (some l) o8 (by simp) (ck.mono cO) FR ⟨yg.1,fun t ht=>(yg.2 t ht).mono Er⟩).1 fun e2 a2 w3 oj=>?_
  obtain⟨NF,R2,g2,H2,e3,qQ,tV,uG,VL,xC,-,-⟩:=oj
  have pC:=nG _ _ qQ
  have vE:=tV.φ _ _ Jv
  obtain⟨i1,OO,i2,i3,i4,i5,i6,i7,i8,i9,i10⟩:=uG.gF b _ pC l o' q' vE
  have fin:∀(jump:Option Code) (st:yo) (pe:Option Ex) (v:Bool),rT pe=jump→st.real=(if jump.isNone then .ready else .done)→v=jump.isNone →
    ((v=true∧NF=.normal∧st=.ready∧pe=none)∨(v=false∧NF≠.normal∧st=.done∧pe=some NF)) →
    ∃v' w',(Instr.endRound l jump).run P w3=.ok v' w'∧K (a.put o.dst v') w':=by
   intro jump st pe v q1 q2 q3 q4
   obtain⟨sN,vN,xD⟩:=uG.qK (y':=.loop st pe m R0 ps cf body) (x':=.loop { OO with state:=if jump.isNone then .ready else .done,pending:=jump }) pC vE i1 i2 rfl rfl (fun w' le um r o q hq=>by
    rw[vE]at hq;cases hq
    exact⟨i1,_,um,q2.symm,q1.symm,i5,i6,fun t ht=>(i7 t ht).mono le,i8,i9,i10⟩)
   refine⟨_,_,run_endRound jump i2,?_⟩
   refine hk _ _ g2 (H2.set b (.loop st pe m R0 ps cf body)) (.bool v) ?_ (((cO.trans Er).trans tV).trans sN) vN (by rw[←q3];exact .bool v) (((OM.trans FT).trans xC).trans xD)
   rcases q4 with⟨rfl,rfl,rfl,rfl⟩|⟨rfl,aY,rfl,rfl⟩
   ·exact .inl ⟨R2,H2,qQ,rfl,rfl⟩
   ·exact .inr ⟨NF,R2,H2,qQ,aY,rfl,rfl⟩
  cases e2<;>simp only[pg,Option.some.injEq,reduceCtorEq]at e3<;>subst e3
  case normal=>exact fin none .ready none true rfl rfl rfl (.inl ⟨rfl,rfl,rfl,rfl⟩)
  case exit id=>exact fin (some (.exit id)) .done (some (.exit id)) false rfl rfl rfl (.inr ⟨rfl,by simp,rfl,rfl⟩)
  case ret=>exact fin (some .ret) .done (some .ret) false rfl rfl rfl (.inr ⟨rfl,by simp,rfl,rfl⟩)
end
theorem qR {P:Program}{w0:World}{F:Func}{n:Nat}{t0:T}{res:List Rs}:∀(ts:List T) (df:List Deferred) (bs:List Nat) (g:Ctx) (H:ae) (w:World) (R:ax) (a:Act) (Rr:Ending→World→Prop),
  sH g ts df→nE ts=some bs→bs.Nodup→(∀b∈bs,H[b]?=some .rQ)→SR w0 g H w→fP g w n R a →
  (∀w' v,Le g w g w'→SR w0 g (kill H bs) w'→fP g w' n R a→Fr g H g (kill H bs)→(results F a.tmps).run P w'=.ok v w'→VR g w' t0 v→Rr (.returned v) w') →
  kX R (kill H bs) res=some t0→(∀(g:Ctx) (w:World) (H:ae),SR w0 g H w→fP g w n R a→kX R H res=some t0→∃v,(results F a.tmps).run P w=.ok v w∧VR g w t0 v) →
  LeavesInM (Fw none) 0 P F a.tmps Rr df .returning w:=by
 intro ts
 induction ts with
 | nil =>
  intro df bs g H w R a Rr hm hb _ _ sr hr hk qS bG
  cases hm
  simp only[nE,Option.some.injEq]at hb;subst hb
  obtain⟨v,h1,h2⟩:=bG g w H sr hr qS
  exact⟨v,h1,hk w v (.refl _ _) sr hr (.refl _ _) h1 h2⟩
 | cons t ts ih =>
  intro df bs g H w R a Rr hm hb jR Es sr hr hk qS bG
  cases hm with
  | @cons b r o q _ df hφ Kg =>
   simp only[nE,yu]at hb
   split at hb
   ·rename_i b' Tw e1 e2
    cases e1
    cases hb
    have RY:=Es b (by simp)
    obtain⟨k1,k2⟩:=sr.gF b _ RY r o q hφ
    obtain⟨le,fZ,mW⟩:=sr.qK (y':=.dead) (x':=.deferred none) RY hφ k1 k2 rfl rfl (fun _ _ _=>trivial)
    refine⟨by simp,.inl ⟨r,_,rfl,run_takeDeferred k2,?_⟩⟩
    simp only[List.nodup_cons]at jR
    refine ih df Tw g (H.set b .dead) _ R a Rr Kg e2 jR.2 (fun c hc=>?_) fZ ⟨hr.1,fun t ht=>(hr.2 t ht).mono le⟩ (fun w' v Er FR Et FT=>hk w' v (le.trans Er) FR Et (mW.trans FT)) qS bG
    exact da (Es c (by simp[hc])) (by rintro rfl;exact jR.1 hc)
   ·cases hb
section
variable {P:Program} {w0 w ws:World} {g g0:Ctx} {H H0 H':ae} {R:ax} {a:Act} {n:Nat} {ops:Array Oper} {r:Option Nat} {mu:Bool} {i:Nat} {o:Oper} {st oX:List Rd}
theorem sO {d:Option Nat}{nn bytes t b len:Nat}{yy:X}{cs:List T}{gd:Gd}{v:T}(ho:ops[i]?=some o)(hc:dL P n ops mu o st=some ⟨d,.b (.app nn bytes false (.r t) yy),gd,oX⟩)(hn:a.tmps.size=n)(hr:eM g w R a (tmpsOf o (.b (.app nn bytes false (.r t) yy)) gd))(hw:aV R gd=true)
  (h:SR w0 g H w) (ht:R t=.aB b 0 len nn) (hb:H[b]?=some (.cells cs)) (hlen:len*nn=cs.length) (h0:0<len)
  (he:av (kQ R t (.sl (.own H.length len) (eY cs 0 len nn))) (H.set b (.fz cs)++[.tok len]) (.app nn bytes false (.r t) yy)=some (v,H')) :
  ∃u w' g',(∀(K:Act→World→Prop) (Q:Exit→Act→World→Prop),K (a.put d u) w'→wpOpIn (Fw r) 0 P ops Q i K a w)∧Le g w g' w'∧SR w0 g' H' w'∧VR g' w' v u∧Fr g H g' H':=by
 have hm:=hr t (by simp[tmpsOf,su,vJ,cy])
 rw[ht]at hm
 obtain⟨g4,sN,vN,xD,zx⟩:=h.Ec hb hm hlen h0
 have jE:eM g4 w (kQ R t (.sl (.own H.length len) (eY cs 0 len nn))) a (tmpsOf o (.b (.app nn bytes false (.r t) yy)) gd):=fun u hu=>by
  by_cases e:u=t
  ·subst e
   simp only[kQ,if_pos rfl]
   exact zx _ hm
  ·simp only[kQ,if_neg e]
   exact(hr u hu).mono sN
 have um:aV (kQ R t (.sl (.own H.length len) (eY cs 0 len nn))) gd=true:=by
  cases gd with
  | none=>rfl
  | some p =>
   obtain⟨u,c⟩:=p
   by_cases e:u=t
   ·subst e
    simp[aV,ht]at hw
   ·simpa only[aV,kQ,if_neg e]using hw
 obtain⟨u,w',g',k1,le,sr,hv,fr⟩:=qP (r:=r) ho hc hn jE um vN he
 exact⟨u,w',g',k1,sN.trans le,sr,hv,xD.trans fr⟩
end
def sP (tmps:Array Value):ResultVar→Sem Value
 | .tmp t=>pure (tmps.getD t undef)
 | .cell a t=>do loadVar t (←asAddr (tmps.getD a undef))
theorem jq {P:Program}{w0:World}{g:Ctx}{w:World}{H:ae}{R:ax}{a:Act}{n:Nat}(sr:SR w0 g H w):∀(l:List ResultVar) (res:List Rs) (ts:List T),lD P l=some res→o5 R H res=some ts→(∀t∈res,xm n t=true)→fP g w n R a →
  ∃vs:List Value,(l.mapM (sP a.tmps)).run P w=.ok vs w∧a6 g w ts vs
 | [],res,ts,h,ht,_,_=>by simp[lD]at h;subst h;simp[o5]at ht;subst ht;exact⟨[],by simp,a6.nil⟩
 | .tmp t :: l,res,ts,h,ht,hn,hr=>by
  simp only[lD,Option.map_eq_some_iff]at h
  obtain⟨HK,h1,rfl⟩:=h
  simp only[o5,uc]at ht
  split at ht
  ·rename_i v vs hv l3
   cases ht;cases hv
   obtain⟨us,h2,h3⟩:=jq (P:=P) sr l HK vs h1 l3 (fun t ht=>hn t (by simp[ht])) hr
   exact⟨a.tmps.getD t undef :: us,by rw[List.mapM_cons];simp only[Sem.run_bind,sP,Sem.run_pure,Result.andThen_ok,h2],a6.cons (hr.2 t (by simpa[xm]using hn (.t t) (by simp))) h3⟩
  ·cases ht
 | .cell c t :: l,res,ts,h,ht,hn,hr=>by
  simp only[lD]at h
  split at h
  ·rename_i d i hu hi
   simp only[Option.map_eq_some_iff]at h
   obtain⟨HK,h1,rfl⟩:=h
   simp only[o5]at ht
   split at ht
   ·rename_i v vs hv l3
    cases ht
    obtain⟨us,h2,h3⟩:=jq (P:=P) sr l HK vs h1 l3 (fun t ht=>hn t (by simp[ht])) hr
    simp only[uc]at hv
    split at hv
    ·rename_i cs r7
     have hc:=hr.2 c (by simpa[xm]using hn (.cl c (if cT d=true then i.size else 1) (cT d)) (by simp))
     obtain⟨u,w',g',bG,hw,dC,hg⟩:=Dh (P:=P) hu hi rfl (fun e=>by rw[if_pos e]) sr hc r7 hv
     subst hw;subst hg
     obtain⟨r,o,VM,hp,_⟩:=kr sr hc r7
     have Kh:(sP a.tmps (.cell c t)).run P w'=.ok u w':=by
      rw[←bG,hp]
      have e:sP a.tmps (.cell c t)=(asAddr (a.tmps.getD c undef) >>= fun x=>loadVar t x):=rfl
      rw[e,hp]
      simp only[asAddr,Instr.loadAt,Instr.sureAddr,Sem.run_bind,Sem.run_pure,Result.andThen_ok]
     exact⟨u :: us,by rw[List.mapM_cons];simp only[Sem.run_bind,Kh,Result.andThen_ok,h2,Sem.run_pure],a6.cons dC h3⟩
    ·cases hv
   ·cases ht
  ·cases h
theorem om {P:Program}{fn:Func}{w0:World}{g:Ctx}{w:World}{H:ae}{R:ax}{a:Act}{n:Nat}{res:List Rs}{t:T}(sr:SR w0 g H w)(h:lD P fn.results.toList=some res)(hn:∀t∈res,xm n t=true)(hr:fP g w n R a)(ht:kX R H res=some t):∃v,(results fn a.tmps).run P w=.ok v w∧VR g w t v:=by
 simp only[kX,Option.map_eq_some_iff]at ht
 obtain⟨ts,ht,rfl⟩:=ht
 obtain⟨vs,h1,h2⟩:=jq (P:=P) sr fn.results.toList res ts h ht hn hr
 have hl:ts.length=vs.length:=h2.1
 have e:results fn a.tmps=(fn.results.mapM (sP a.tmps) >>= fun vs=>pure (if h:vs.size=1 then vs[0]else .tuple vs)):=rfl
 refine⟨if h:vs.toArray.size=1 then vs.toArray[0]else .tuple vs.toArray,?_,?_⟩
 ·rw[e,Array.mapM_eq_mapM_toList]
  simp only[Sem.run_bind,Sem.run_map,map_eq_pure_bind,h1,Result.andThen_ok,Sem.run_pure]
 ·match ts,vs,hl,h2 with
  | [],[],_,_=>exact .bC rfl (by simp)
  | [t],[v],_,h2=>simpa[wV]using h2.head
  | t :: t' :: ts,v :: v' :: vs,_,h2 =>
   have:¬(v :: v' :: vs).toArray.size=1:=by simp
   rw[dif_neg this]
   simpa[wV]using h2.bC
theorem dM {P:Program}{n:Nat}{ops:Array Oper}{mu:Bool}{o:Oper}{st:List Rd}{y:O}(h:dL P n ops mu o st=some y):y.d≠some n:=by
 obtain⟨_,_,_,_,e,_,h5⟩:=aR h
 subst e
 exact fun e=>Nat.lt_irrefl n (h5 n e)
theorem tW {P:Program}{n:Nat}{ops:Array Oper}{mu:Nat→Bool}{w0 w ws w':World}{df:List Deferred}{mk:T}{g g0 g':Ctx}{H H0 H':ae}{pre OP:List It}{L L':Array Bool}{R R':ax}{a a':Act}
  (h:Dr P n ops mu w0 df mk g0 ws H0 pre L g R H a w) (h':Dr P n ops mu w0 df mk g0 ws H0 OP L' g' R' H' a' w') (ck:dY P g):dY P g':=fun n c k=>by rw[h'.le.ck,←h.le.ck];exact ck n c k
theorem oo {P:Program}{an:An}{f:FuncId}{fn:Fn}(rL:au P an f=some fn):∃F code res body,P.funcs[f]?=some F∧F.body=some code∧lD P F.results.toList=some res∧aZ P F.ntmps an true code=some body ∧
  cG P f=true∧F.params.size+F.nfree≤F.ntmps∧(∀t∈res,xm F.ntmps t=true)∧fn=⟨F.ntmps,F.params.size+F.nfree,res,body⟩:=by
 unfold au at rL
 cases hF:P.funcs[f]? with
 | none=>simp[hF]at rL
 | some F =>
  simp only[hF]at rL
  split at rL
  ·rename_i code res hb qS
   split at rL
   ·rename_i c qH
    split at rL
    ·rename_i hk
     simp only[Bool.and_eq_true,decide_eq_true_eq,List.all_eq_true]at hk
     obtain⟨⟨gH,aQ⟩,aE⟩:=hk
     cases rL
     exact⟨F,code,res,c,rfl,hb,qS,qH,gH,aQ,aE,rfl⟩
    ·cases rL
   ·cases rL
  ·cases rL
theorem oq {F:Func}{g:Ctx}{w:World}{as:List T}{args:List Value}(hv:a6 g w as args){k:Nat}(hn:as.length=k)(aQ:k≤F.ntmps) :
  fP g w F.ntmps (gq as) { tmps:=args.toArray++Array.replicate (F.ntmps-args.toArray.size) undef,defers:=[] }:=by
 have yh:args.length=as.length:=hv.1.symm
 refine⟨by simp[yh,hn];omega,fun t ht=>?_⟩
 by_cases NG:t<as.length
 ·simp only[gq]
  rw[List.getD_eq_getElem?_getD,List.getElem?_eq_getElem NG,Option.getD_some]
  rw[Array.getD_eq_getD_getElem?,Array.getElem?_append_left (by simpa[yh]using NG)]
  simp only[List.getElem?_toArray,List.getElem?_eq_getElem (yh▸NG:t<args.length),Option.getD_some]
  exact hv.2 t _ _ (List.getElem?_eq_getElem NG) (List.getElem?_eq_getElem _)
 ·simp only[gq]
  rw[List.getD_eq_getElem?_getD,List.getElem?_eq_none (by omega),Option.getD_none]
  rw[Array.getD_eq_getD_getElem?,Array.getElem?_append_right (by simp[yh];omega),Array.getElem?_replicate]
  split<;>exact fM
theorem jo.Ki {w0 w:World}{n:Nat}{hr jE:Bool}{df:List Deferred}{mk:T}{g:Ctx}{H:ae}{Q:Out→ae→Prop}(hh:hr=false→jE=false){e:Exit}{a:Act}{u:World}(h:jo w0 n jE df mk g w H Q e a u):jo w0 n hr df mk g w H Q e a u :=
 h.trans (.refl _ _) (.refl _ _) id fun e=>⟨hh e,rfl,rfl⟩
theorem W.Tx {P:Program}{E:Env}(hE:sG P E){j:J}{H:ae}{Q:Out→ae→Prop}(h:W E j H Q):OH P j H Q:=by
 induction h with
 | @skip R H Q h =>
  intro w0 g w a n an top code r hc ht ck sr hr
  obtain rfl:=zr hc
  exact⟨wpIn_skip ⟨.normal,R,g,H,rfl,h,.refl _ _,sr,hr,.refl _ _,id,fun _=>⟨rfl,rfl⟩⟩,by rintro _⟨⟩⟩
 | @exit id R H Q h =>
  intro w0 g w a n an top code r hc ht ck sr hr
  obtain rfl:=zs hc
  exact⟨wpIn_exit ⟨.exit id,R,g,H,rfl,h,.refl _ _,sr,hr,.refl _ _,fun m=>m,fun _=>⟨rfl,rfl⟩⟩,by rintro _⟨⟩⟩
 | @ret R H Q h =>
  intro w0 g w a n an top code r hc ht ck sr hr
  obtain rfl:=Ek hc
  exact⟨wpIn_ret ⟨.ret,R,g,H,rfl,h,.refl _ _,sr,hr,.refl _ _,id,fun _=>⟨rfl,rfl⟩⟩,by rintro _⟨⟩⟩
 | @G2 l R H Q _ ih =>
  intro w0 g w a n an top code r hc ht ck sr hr
  obtain⟨id,ops,mu,⟨rfl,h1⟩|⟨rfl,ord,hO,h1,h2⟩⟩:=Em hc
  ·exact⟨wpIn_mono (wpIn_region (ih.1 w0 g w H g w a n ops mu _ r h1 ck sr hr (.refl _ _) (.refl _ _))) fun e a w hp=>hp.RU,by rintro _⟨⟩⟩
  ·refine⟨wpIn_mono (wpIn_region_any (Q:=uF w0 n a.defers (R n) g w H Q) hE.mixed ?_) fun e a w hp=>hp.RU,by rintro _⟨⟩⟩
   obtain⟨fZ,le⟩:=sr.drew (w':={ w with drawn:=w.drawn+1 }) (Tr.drew w) rfl
   have hd:=Dr.init (ops:=ops) (mu:=mu) (P:=P) (mk:=R n) fZ hr.1 rfl (fun t ht=>(hr.2 t ht).mono le) le (.refl g H)
   refine ih.2 w0 n ops mu a.defers (R n) g w H [] _ g a _ ord hO r ops.size ck h1 h2 hd ?_
   exact Nat.le_trans (List.count_le_length) (by simp)
 | @seq x y R H Q M _ h2 h3 rK kS =>
  intro w0 g w a n an top code r hc ht ck sr hr
  obtain⟨c,d,rfl,k1,k2⟩:=El hc
  refine⟨wpIn_seq (wpIn_mono (rK w0 g w a n an top c r k1 ht ck sr hr).1 fun e a' w' hp=>?_),by rintro _⟨⟩⟩
  have hb:(C.seq x y).iR=false→x.iR=false∧y.iR=false:=by simp[C.iR]
  obtain⟨ex,R',g',H',e1,hm,le,fZ,jE,fr,rJ,vO⟩:=hp
  cases e<;>simp only[pg,Option.some.injEq,reduceCtorEq]at e1<;>subst e1
  case normal =>
   exact wpIn_mono (kS R' H' hm w0 g' w' a' n an top d r k2 ht (ck.mono le) fZ jE).1 fun e a2 w2 hp=>hp.trans le fr rJ fun e=>⟨(hb e).2,vO (hb e).1⟩
  case exit id=>exact⟨_,R',g',H',rfl,h3 _ _ hm (by simp),le,fZ,jE,fr,rJ,fun e=>vO (hb e).1⟩
  case ret=>exact⟨_,R',g',H',rfl,h3 _ _ hm (by simp),le,fZ,jE,fr,rJ,fun e=>vO (hb e).1⟩
 | @cond x c d R H Q t hx _ ih =>
  intro w0 g w a n an top code r hc ht ck sr hr
  obtain⟨o,d',e',rfl,k1,k2,k3,k4⟩:=zt hc
  refine⟨wpIn_cond (t:=t) ?_ ?_,by rintro _⟨⟩⟩
  ·have hv:VR g w (.bool t) (a.eval o):=by
    cases o with
    | tmp u=>simp only[aH,Option.some.injEq]at k1;subst k1;simp only[X.ev]at hx;rw[←hx];exact hr.2 u (k4 u rfl)
    | const v =>
     simp only[aH,Option.map_eq_some_iff]at k1
     obtain⟨u,h1,rfl⟩:=k1
     simp only[X.ev]at hx;subst hx
     exact jD h1
    | «global» _=>simp[aH]at k1
    | func f=>simp only[aH,Option.some.injEq]at k1;subst k1;simp[X.ev]at hx
   generalize a.eval o=v at hv
   cases hv;rfl
  ·cases t
   ·exact wpIn_mono (ih w0 g w a n an top e' r k3 ht ck sr hr).1 fun e a w hp=>hp.Ki (by simp[C.iR])
   ·exact wpIn_mono (ih w0 g w a n an top d' r k2 ht ck sr hr).1 fun e a w hp=>hp.Ki (by simp[C.iR];intro h _;exact h)
 | @block id x R H Q M _ h2 h3 ih =>
  intro w0 g w a n an top code r hc ht ck sr hr
  obtain⟨c,rfl,k1⟩:=xA hc
  refine⟨wpIn_block (wpIn_mono (ih w0 g w a n an top c r k1 ht ck sr hr).1 fun e a' w' hp=>?_),by rintro _⟨⟩⟩
  obtain⟨ex,R',g',H',e1,hm,le,fZ,jE,fr,vO⟩:=hp
  cases e<;>simp only[pg,Option.some.injEq,reduceCtorEq]at e1<;>subst e1
  case normal=>exact⟨_,R',g',H',rfl,h3 _ _ hm (by simp),le,fZ,jE,fr,vO⟩
  case exit Tp =>
   simp only[Exit.inBlock]
   split
   ·rename_i e;subst e;exact⟨_,R',g',H',rfl,h2 _ _ hm,le,fZ,jE,fr,vO⟩
   ·rename_i e;exact⟨_,R',g',H',rfl,h3 _ _ hm (fun R2 e2=>by cases e2;exact e rfl),le,fZ,jE,fr,vO⟩
  case ret=>exact⟨_,R',g',H',rfl,h3 _ _ hm (by simp),le,fZ,jE,fr,vO⟩
 | @loop x R H Q M _ h2 h3 rK kS =>
  intro w0 g w a n an top code r hc ht ck sr hr
  obtain⟨c,rfl,k1⟩:=zu hc
  have key:oe (Fw r) 0 P c (jo w0 n x.loop.iR a.defers (R n) g w H Q) a w:=by
   refine sI (wpIn_mono (rK w0 g w a n an top c r k1 ht ck sr hr).1 fun e a' w' hp=>?_)
   obtain⟨ex,R',g',H',e1,hm,le,fZ,jE,fr,rJ,vO⟩:=hp
   cases e<;>simp only[pg,Option.some.injEq,reduceCtorEq]at e1<;>subst e1
   case normal =>
    have:=(kS R' H' hm w0 g' w' a' n an top (.loop c) r hc ht (ck.mono le) fZ jE).2 c rfl
    intro b k cs h1 h2 h4
    obtain⟨e,a2,w2,hq,gR⟩:=this b k cs h1 h2 h4
    exact⟨e,a2,w2,hq.trans le fr rJ fun e=>⟨e,vO e⟩,gR⟩
   case exit id=>exact⟨_,R',g',H',rfl,h3 _ _ hm (by simp),le,fZ,jE,fr,rJ,vO⟩
   case ret=>exact⟨_,R',g',H',rfl,h3 _ _ hm (by simp),le,fZ,jE,fr,rJ,vO⟩
  exact⟨xy key,fun body e=>by cases e;exact key⟩
 | @cg m x ps cf body R H Q f cs M hx _ h2 ih =>
  intro w0 g w a n an top code r hc ht ck sr hr
  obtain⟨OQ,qs,c,d,rfl,k1,k2,k3,k4,k5,rfl,k7,rfl⟩:=xB hc
  obtain rfl:=ht k4
  refine⟨wpIn_rangeFunc fun fn _=>?_,by rintro _⟨⟩⟩
  have hv:VR g w (.fn f cs) (a.eval OQ):=by
   cases OQ with
   | tmp u=>simp only[aH,Option.some.injEq]at k1;subst k1;simp only[X.ev]at hx;rw[←hx];exact hr.2 u (k5 u (by simp[cy]))
   | const v =>
    simp only[aH,Option.map_eq_some_iff]at k1
    obtain⟨u,h1,rfl⟩:=k1
    simp only[X.ev]at hx;subst hx
    exact jD h1
   | «global» _=>simp[aH]at k1
   | func f'=>simp only[aH,Option.some.injEq]at k1;subst k1;simp only[X.ev]at hx;cases hx;exact .fn rfl (by simp)
  generalize Ty:a.eval OQ=vf at hv
  cases hv with
  | @fn _ _ vs hl r7 =>
   obtain⟨g1,cO,Hv,OM,Jv⟩:=sr.zf (x:=.deferred (some [])) (y:=.rQ) rfl (fun g' w' _ q1 q2 q3 r o q hq=>by rw[q2]at hq;cases hq;exact⟨q1,q3⟩)
   have aQ:(w.alloc (.deferred (some []))).heap.size=w.heap.size+1:=by simp
   obtain⟨g2,Er,FR,FT,vE⟩:=Hv.zf (x:=.loop { state:=.ready,pending:=none,fn,tmps:=a.tmps,params:=qs,assign:=c,body:=d,defers:=w.heap.size }) (y:=.loop .ready none m R qs.toList cf body) rfl
    (fun g' w' le q1 q2 q3 r o q hq=>by
     rw[q2]at hq;cases hq
     refine⟨q1,_,q3,rfl,rfl,rfl,hr.1,fun t ht=>((hr.2 t ht).mono cO).mono le,k7,?_,?_⟩
     ·rw[le.ck,cO.ck];exact(ck _ _ _).2 ⟨an,k2⟩
     ·rw[le.ck,cO.ck];exact(ck _ _ _).2 ⟨an,k3⟩)
   rw[aQ]at vE
   have hlen:(H++[B.rQ]).length=H.length+1:=by simp
   rw[hlen]at vE
   have HL:H++[B.rQ]++[B.loop .ready none m R qs.toList cf body]=H++[.rQ,.loop .ready none m R qs.toList cf body]:=by simp
   rw[HL]at FR FT
   have HM:=cO.trans Er
   have Kj:a6 g2 ((w.alloc (.deferred (some []))).alloc (.loop { state:=.ready,pending:=none,fn,tmps:=a.tmps,params:=qs,assign:=c,body:=d,defers:=w.heap.size })) (.mQ (H.length+1) :: cs) (.func (.yield (w.heap.size+1)) #[] #[] :: vs.toList) :=
    a6.cons (.mQ vE) ⟨by simp[hl],fun i t v ha hb=>(r7 i t v ha (by simpa using hb)).mono HM⟩
   obtain⟨gH,zy⟩:=ih w0 g2 _ _ (ck.mono HM) FR Kj
   refine⟨w.heap.size+1,[{ target:=.collected w.heap.size,args:=#[] }],((w.alloc (.deferred (some []))).alloc (.loop { state:=.ready,pending:=none,fn,tmps:=a.tmps,params:=qs,assign:=c,body:=d,defers:=w.heap.size })),{ target:=.fn (.func f) vs,args:=#[.func (.yield (w.heap.size+1)) #[] #[]] },((w.alloc (.deferred (some []))).alloc (.loop { state:=.ready,pending:=none,fn,tmps:=a.tmps,params:=qs,assign:=c,body:=d,defers:=w.heap.size })),f,#[.func (.yield (w.heap.size+1)) #[] #[]]++vs,((w.alloc (.deferred (some []))).alloc (.loop { state:=.ready,pending:=none,fn,tmps:=a.tmps,params:=qs,assign:=c,body:=d,defers:=w.heap.size })),run_enterLoop_outer _ _ _ _ _,?_,fun _ _=>trivial,?_,fun h=>by simp[Fw]at h,?_⟩
   ·simp only[resolve,Ty,Deferred.ofValue]
    simp[Act.eval]
   ·exact iz gH
   ·have e3:(.func (.yield (w.heap.size+1)) #[] #[] :: vs.toList:List Value).toArray=#[.func (.yield (w.heap.size+1)) #[] #[]]++vs:=by simp
    rw[e3]at zy
    refine zy.mono fun e w3 ⟨v,t,g3,H3,he,hM,tV,uG,_,xC⟩=>?_
    subst he
    obtain⟨st,cL,ji,Tz,RZ,hQ⟩:=h2 _ _ hM
    have R9:=tV.φ _ _ vE
    obtain⟨j1,rec,j2,j3,j4,j5,j6,j7,j8,j9,RX⟩:=uG.gF _ _ RZ _ _ _ R9
    obtain⟨sN,vN,xD⟩:=uG.qK (y':=.dead) (x':=.loop { rec with state:=.exhausted }) RZ R9 j1 j2 rfl rfl (fun _ _ _=>trivial)
    refine⟨_,_,run_endLoop j2 (by rw[j3];cases st<;>simp[yo.real]at ji ⊢),?_⟩
    generalize w3.putObj (w.heap.size+1) (.loop { rec with state:=.exhausted })=W4 at sN vN ⊢
    rw[j4]
    have OS:=(HM.trans tV).trans sN
    have TA:Fr g H g3 (H3.set (H.length+1) .dead):=by
     have:=(OM.trans FT).trans (xC.trans xD)
     exact this
    have post:∀e,pg e=some (qx cL)→jo w0 m (C.cg m x qs.toList cf body).iR a.defers (R m) g w H Q e { a with defers:=[{ target:=.collected w.heap.size,args:=#[] }]++a.defers } W4:=by
     intro e he
     refine⟨_,_,g3,_,he,hQ,OS,vN,⟨hr.1,fun t ht=>?_⟩,TA,fun hm=>?_,fun h=>by simp[C.iR]at h⟩
     ·simp only[kQ];rw[if_neg (Nat.ne_of_lt ht)];exact(hr.2 t ht).mono OS
     ·obtain⟨ts,e1,e2⟩:=hm
      refine⟨.ptr H.length 0 :: ts,by simp[kQ,e1,kW],.cons (((Er.trans tV).trans sN).φ _ _ Jv) (e2.mono OS)⟩
    cases hp:cL with
    | none=>simp only[rT];exact post .normal (by rw[hp];rfl)
    | some e =>
     rcases zw (e:=e) (by rintro rfl;exact Tz hp)with⟨id,rfl,e5⟩|⟨rfl,e5⟩
     ·simp only[e5];exact wpIn_exit (post (.exit id) (by rw[hp];rfl))
     ·simp only[e5];exact wpIn_ret (post .ret (by rw[hp];rfl))
 | @nil R H Q h =>
  refine⟨fun w0 g0 ws H0 g w a n ops mu is r hc ck sr hr le fr=>?_,fun w0 n ops mu df mk g0 ws H0 pre L g a w ord hO r fuel ck h1 h2 hd hl=>?_⟩
  ·obtain rfl:=sK hc
   exact⟨.normal,R,g,H,rfl,h,le,sr,hr,fr,rfl,rfl⟩
  ·have cj:=bP ord pre hO h1
   cases hO with
   | cons _ _=>simp at h2
   | nil=>exact xz (by simpa using cj) h fuel L g a w hl hd
 | @no o l R H Q hg _ ih =>
  refine⟨fun w0 g0 ws H0 g w a n ops mu is r hc ck sr hr le fr=>?_,fun w0 n ops mu df mk g0 ws H0 pre L g a w ord hO r fuel ck h1 h2 hd hl=>?_⟩
  ·obtain⟨i,oY,oper,rfl,ho,dn,cA⟩:=cd hc
   rw[wpOpsIn_cons]
   refine vM ho dn hr.1 (hr.rg (lF dn)) hg ?_
   have:=ih.1 w0 g0 ws H0 g w (a.put o.d undef) n ops mu oY r cA ck sr (hr.put (by obtain⟨_,_,_,_,e,_,h5⟩:=aR dn;rw[e];exact h5) (.refl _ _) fM) le fr
   rwa[fN,bF (dM dn)]at this
  ·obtain⟨x,l',dE,oper,rfl,rfl,h3,hh,h4⟩:=eN h1 h2
   cases he:x.early with
   | true=>exact ih.2 w0 n ops mu df mk g0 ws H0 _ L g a w dE l' r fuel ck h4 h3 (hd.En hh he hg) hl
   | false =>
    refine cV (Tl:=fun R' H'=>R'=a0 R x.o.d aW∧H'=H) hh he (bP ord pre _ h1) (b9 dE _ l' h4) ?_ ?_ fuel L g a w hl hd
    ·rintro R' H'⟨rfl,rfl⟩ fuel L' g' a' w' hL eZ
     exact ih.2 w0 n ops mu df mk g0 ws H0 _ L' g' a' w' dE l' r fuel (tW hd eZ ck) h4 h3 eZ hL
    ·intro L g a w hd hp K hK
     exact vM hh.ho hh.co hd.qN (hd.cW hh hp) hg (hK _ _ g _ w ⟨rfl,rfl⟩ (hd.both hh he hp (.refl _ _) hd.sr fM (.refl _ _) fun _ _ _ _ _ _ _ _ _ e=>e))
 | @op d b gd s l R H Q v H' hg hv hs _ ih =>
  refine⟨fun w0 g0 ws H0 g w a n ops mu is r hc ck sr hr le fr=>?_,fun w0 n ops mu df mk g0 ws H0 pre L g a w ord hO r fuel ck h1 h2 hd hl=>?_⟩
  ·obtain⟨i,oY,oper,rfl,ho,dn,cA⟩:=cd hc
   rw[wpOpsIn_cons]
   obtain⟨u,w',g',bz,iT,fZ,dC,mW⟩:=qP (r:=r) ho dn hr.1 (hr.rg (lF dn)) hg sr hv
   refine bz _ _ ?_
   have:=ih.1 w0 g0 ws H0 g' w' (a.put d u) n ops mu oY r cA (ck.mono iT) fZ (hr.put (by obtain⟨_,_,_,_,e,_,h5⟩:=aR dn;cases e;exact h5) iT dC) (le.trans iT) (fr.trans mW)
   rwa[fN,bF (dM dn)]at this
  ·obtain⟨x,l',dE,oper,rfl,iY,h3,hh,h4⟩:=eN h1 h2
   have vP:x.o.d=d:=by rw[iY]
   cases he:x.early with
   | true =>
    have:=hd.Eo hh he (b:=b) (by rw[iY]) (by rw[iY];exact hg) hv
    rw[vP]at this
    exact ih.2 w0 n ops mu df mk g0 ws H0 _ L g a w dE l' r fuel ck h4 h3 this hl
   | false =>
    refine cV (Tl:=fun R' H2=>R'=a0 R d v∧H2=H') hh he (bP ord pre _ h1) (b9 dE _ l' h4) ?_ ?_ fuel L g a w hl hd
    ·rintro R' H'⟨rfl,rfl⟩ fuel L' g' a' w' hL eZ
     exact ih.2 w0 n ops mu df mk g0 ws H0 _ L' g' a' w' dE l' r fuel (tW hd eZ ck) h4 h3 eZ hL
    ·intro L2 g2 a2 w2 bm hp K hK
     have Eu:dY P g2:=tW hd bm ck
     have dn:=hh.co
     have lG:=bm.cW hh hp
     have ji:=bm.stays hh he hp (H':=H') (by rw[iY];exact hs)
     rw[iY]at dn lG
     obtain⟨u,w',g',bz,iT,fZ,dC,mW⟩:=qP (r:=r) hh.ho dn bm.qN lG hg bm.sr hv
     refine bz _ _ (hK _ _ g' _ w' ⟨rfl,rfl⟩ ?_)
     have:=bm.both hh he hp iT fZ dC mW ji
     rwa[vP]at this
 | @Jk d nn bytes yy gd s l R H Q b len cs v H' t hg ht hb hlen h0 hv hs _ ih =>
  refine⟨fun w0 g0 ws H0 g w a n ops mu is r hc ck sr hr le fr=>?_,fun w0 n ops mu df mk g0 ws H0 pre L g a w ord hO r fuel ck h1 h2 hd hl=>?_⟩
  ·obtain⟨i,oY,oper,rfl,ho,dn,cA⟩:=cd hc
   rw[wpOpsIn_cons]
   obtain⟨u,w',g',bz,iT,fZ,dC,mW⟩:=sO (r:=r) ho dn hr.1 (hr.rg (lF dn)) hg sr ht hb hlen h0 hv
   refine bz _ _ ?_
   have:=ih.1 w0 g0 ws H0 g' w' (a.put d u) n ops mu oY r cA (ck.mono iT) fZ (hr.put (by obtain⟨_,_,_,_,e,_,h5⟩:=aR dn;cases e;exact h5) iT dC) (le.trans iT) (fr.trans mW)
   rwa[fN,bF (dM dn)]at this
  ·obtain⟨x,l',dE,oper,rfl,iY,h3,hh,h4⟩:=eN h1 h2
   have vP:x.o.d=d:=by rw[iY]
   cases he:x.early with
   | true =>
    have:=(hh.kl he).1
    rw[iY]at this
    exact absurd (by cases d<;>rfl) this
   | false =>
    refine cV (Tl:=fun R' H2=>R'=a0 R d v∧H2=H') hh he (bP ord pre _ h1) (b9 dE _ l' h4) ?_ ?_ fuel L g a w hl hd
    ·rintro R' H'⟨rfl,rfl⟩ fuel L' g' a' w' hL eZ
     exact ih.2 w0 n ops mu df mk g0 ws H0 _ L' g' a' w' dE l' r fuel (tW hd eZ ck) h4 h3 eZ hL
    ·intro L2 g2 a2 w2 bm hp K hK
     have Eu:dY P g2:=tW hd bm ck
     have dn:=hh.co
     have lG:=bm.cW hh hp
     have ji:=bm.stays hh he hp (H':=H') (by rw[iY];exact hs)
     rw[iY]at dn lG
     obtain⟨u,w',g',bz,iT,fZ,dC,mW⟩:=sO (r:=r) hh.ho dn bm.qN lG hg bm.sr ht hb hlen h0 hv
     refine bz _ _ (hK _ _ g' _ w' ⟨rfl,rfl⟩ ?_)
     have:=bm.both hh he hp iT fZ dC mW ji
     rwa[vP]at this
 | @call d f as gd s l R H Q M hg _ hs h2 rK kS =>
  refine⟨fun w0 g0 ws H0 g w a n ops mu is r hc ck sr hr le fr=>?_,fun w0 n ops mu df mk g0 ws H0 pre L g a w ord hO r fuel ck h1 h2 hd hl=>?_⟩
  ·obtain⟨i,oY,oper,rfl,ho,dn,cA⟩:=cd hc
   rw[wpOpsIn_cons]
   refine pU (r:=r) ho dn hr.1 (hr.rg (lF dn)) hg (fun args hv=>rK w0 g w args ck sr hv) fun u w' g' H' t hM iT fZ dC mW=>?_
   have:=(kS t H' hM).1 w0 g0 ws H0 g' w' (a.put d u) n ops mu oY r cA (ck.mono iT) fZ (hr.put (by obtain⟨_,_,_,_,e,_,h5⟩:=aR dn;cases e;exact h5) iT dC) (le.trans iT) (fr.trans mW)
   rwa[fN,bF (dM dn)]at this
  ·obtain⟨x,l',dE,oper,rfl,iY,h3,hh,h4⟩:=eN h1 h2
   have vP:x.o.d=d:=by rw[iY]
   cases he:x.early with
   | true=>exact absurd (by rw[iY];rfl) (hh.kl he).1
   | false =>
    refine cV (Tl:=fun R' H2=>∃v,M (.val v) H2∧R'=a0 R d v) hh he (bP ord pre _ h1) (b9 dE _ l' h4) ?_ ?_ fuel L g a w hl hd
    ·rintro R' H'⟨v,hM,rfl⟩ fuel L' g' a' w' hL eZ
     exact(kS v H' hM).2 w0 n ops mu df mk g0 ws H0 _ L' g' a' w' dE l' r fuel (tW hd eZ ck) h4 h3 eZ hL
    ·intro L2 g2 a2 w2 bm hp K hK
     have Eu:dY P g2:=tW hd bm ck
     have dn:=hh.co
     have lG:=bm.cW hh hp
     rw[iY]at dn lG
     refine pU (r:=r) hh.ho dn bm.qN lG hg (fun args hv=>rK w0 g2 w2 args Eu bm.sr hv) fun u w' g' H' t hM iT fZ dC mW=>hK _ H' g' _ w' ⟨t,hM,rfl⟩ ?_
     have ji:=bm.stays hh he hp (H':=H') (by rw[iY];exact hs t H' hM)
     have:=bm.both hh he hp iT fZ dC mW ji
     rwa[vP]at this
 | @cq d xx f cs as gd s l R H Q M hg hf _ hs h2 rK kS =>
  refine⟨fun w0 g0 ws H0 g w a n ops mu is r hc ck sr hr le fr=>?_,fun w0 n ops mu df mk g0 ws H0 pre L g a w ord hO r fuel ck h1 h2 hd hl=>?_⟩
  ·obtain⟨i,oY,oper,rfl,ho,dn,cA⟩:=cd hc
   rw[wpOpsIn_cons]
   refine og (r:=r) ho dn hr.1 (hr.rg (lF dn)) hg hf (fun args hv=>rK w0 g w args ck sr hv) fun u w' g' H' t hM iT fZ dC mW=>?_
   have:=(kS t H' hM).1 w0 g0 ws H0 g' w' (a.put d u) n ops mu oY r cA (ck.mono iT) fZ (hr.put (by obtain⟨_,_,_,_,e,_,h5⟩:=aR dn;cases e;exact h5) iT dC) (le.trans iT) (fr.trans mW)
   rwa[fN,bF (dM dn)]at this
  ·obtain⟨x,l',dE,oper,rfl,iY,h3,hh,h4⟩:=eN h1 h2
   have vP:x.o.d=d:=by rw[iY]
   cases he:x.early with
   | true=>exact absurd (by rw[iY];rfl) (hh.kl he).1
   | false =>
    refine cV (Tl:=fun R' H2=>∃v,M (.val v) H2∧R'=a0 R d v) hh he (bP ord pre _ h1) (b9 dE _ l' h4) ?_ ?_ fuel L g a w hl hd
    ·rintro R' H'⟨v,hM,rfl⟩ fuel L' g' a' w' hL eZ
     exact(kS v H' hM).2 w0 n ops mu df mk g0 ws H0 _ L' g' a' w' dE l' r fuel (tW hd eZ ck) h4 h3 eZ hL
    ·intro L2 g2 a2 w2 bm hp K hK
     have Eu:dY P g2:=tW hd bm ck
     have dn:=hh.co
     have lG:=bm.cW hh hp
     rw[iY]at dn lG
     refine og (r:=r) hh.ho dn bm.qN lG hg hf (fun args hv=>rK w0 g2 w2 args Eu bm.sr hv) fun u w' g' H' t hM iT fZ dC mW=>hK _ H' g' _ w' ⟨t,hM,rfl⟩ ?_
     have ji:=bm.stays hh he hp (H':=H') (by rw[iY];exact hs t H' hM)
     have:=bm.both hh he hp iT fZ dC mW ji
     rwa[vP]at this
 | @mQ d xx b as gd s l R H Q m R0 ps cf body M1 M hg hf hb hn _ pr _ nG pt _ CV _ rK kS Jw Jx =>
  refine⟨fun w0 g0 ws H0 g w a n ops mu is r hc ck sr hr le fr=>?_,fun w0 n ops mu df mk g0 ws H0 pre L g a w ord hO r fuel ck h1 h2 hd hl=>?_⟩
  ·obtain⟨i,oY,oper,rfl,ho,dn,cA⟩:=cd hc
   rw[wpOpsIn_cons]
   refine sM (r:=r) ho dn hr.1 (hr.rg (lF dn)) hg hf hb hn ck sr rK pr kS nG fun u w' g' H' t uk iT fZ dC mW=>?_
   have Kk:=hr.put (d:=d) (by obtain⟨_,_,_,_,e,_,h5⟩:=aR dn;cases e;exact h5) iT dC
   rcases uk with⟨R',H2,hM,rfl,rfl⟩|⟨e,R',H2,hM,aY,rfl,rfl⟩
   ·have:=(Jw R' H2 hM).1 w0 g0 ws H0 g' w' (a.put d u) n ops mu oY r cA (ck.mono iT) fZ Kk (le.trans iT) (fr.trans mW)
    rwa[fN,bF (dM dn)]at this
   ·have:=(Jx e R' H2 hM aY).1 w0 g0 ws H0 g' w' (a.put d u) n ops mu oY r cA (ck.mono iT) fZ Kk (le.trans iT) (fr.trans mW)
    rwa[fN,bF (dM dn)]at this
  ·obtain⟨x,l',dE,oper,rfl,iY,h3,hh,h4⟩:=eN h1 h2
   have vP:x.o.d=d:=by rw[iY]
   cases he:x.early with
   | true=>exact absurd (by rw[iY];rfl) (hh.kl he).1
   | false =>
    refine cV (Tl:=fun R' H'=>(∃R2 H2,M (.ex .normal R2) H2∧R'=a0 R d (.bool true)∧H'=H2.set b (.loop .ready none m R0 ps cf body))∨(∃e R2 H2,M (.ex e R2) H2∧e≠.normal∧R'=a0 R d (.bool false)∧H'=H2.set b (.loop .done (some e) m R0 ps cf body)))
     hh he (bP ord pre _ h1) (b9 dE _ l' h4) ?_ ?_ fuel L g a w hl hd
    ·rintro R' H' (⟨R2,H2,hM,rfl,rfl⟩|⟨e,R2,H2,hM,aY,rfl,rfl⟩) fuel L' g' a' w' hL eZ
     ·exact(Jw R2 H2 hM).2 w0 n ops mu df mk g0 ws H0 _ L' g' a' w' dE l' r fuel (tW hd eZ ck) h4 h3 eZ hL
     ·exact(Jx e R2 H2 hM aY).2 w0 n ops mu df mk g0 ws H0 _ L' g' a' w' dE l' r fuel (tW hd eZ ck) h4 h3 eZ hL
    ·intro L2 g2 a2 w2 bm hp K hK
     have Eu:dY P g2:=tW hd bm ck
     have dn:=hh.co
     have lG:=bm.cW hh hp
     rw[iY]at dn lG
     refine sM (r:=r) hh.ho dn bm.qN lG hg hf hb hn Eu bm.sr rK pr kS nG fun u w' g' H' t uk iT fZ dC mW=>?_
     have pC:∀(hs:eX R H' s),Dr P n ops mu w0 df mk g0 ws H0 (pre++[x]) (L2.setIfInBounds x.i true) g' (a0 R d t) H' (a2.put d u) w':=fun hs=>by
      have ji:=bm.stays hh he hp (H':=H') (by rw[iY];exact hs)
      have:=bm.both hh he hp iT fZ dC mW ji
      rwa[vP]at this
     rcases uk with⟨R',H2,hM,rfl,rfl⟩|⟨e,R',H2,hM,aY,rfl,rfl⟩
     ·exact hK _ _ g' _ w' (.inl ⟨R',H2,hM,rfl,rfl⟩) (pC (pt R' H2 hM))
     ·exact hK _ _ g' _ w' (.inr ⟨e,R',H2,hM,aY,rfl,rfl⟩) (pC (CV e R' H2 hM aY))
 | @ud d neg c xx yy s l R H Q hs _ hx hy hc ih =>
  subst hc
  subst hs
  refine⟨fun w0 g0 ws H0 g w a n ops mu is r hc ck sr hr le fr=>?_,fun w0 n ops mu df mk g0 ws H0 pre L g a w ord hO r fuel ck h1 h2 hd hl=>?_⟩
  ·obtain⟨i,oY,oper,rfl,ho,dn,cA⟩:=cd hc
   rw[wpOpsIn_cons]
   obtain⟨b,bz⟩:=pT (r:=r) ho dn hr.1 (hr.rg (lF dn)) rfl hx hy
   refine bz _ _ ?_
   have:=(ih b).1 w0 g0 ws H0 g w (a.put d (.bool b)) n ops mu oY r cA ck sr (hr.put (by obtain⟨_,_,_,_,e,_,h5⟩:=aR dn;cases e;exact h5) (.refl _ _) (.bool b)) le fr
   rwa[fN,bF (dM dn)]at this
  ·obtain⟨x,l',dE,oper,rfl,iY,h3,hh,h4⟩:=eN h1 h2
   have vP:x.o.d=d:=by rw[iY]
   cases he:x.early with
   | true =>
    have:=(hh.kl he).1
    rw[iY]at this
    exact absurd (by cases d<;>rfl) this
   | false =>
    refine cV (Tl:=fun R' H2=>∃b:Bool,R'=a0 R d (.bool b)∧H2=H) hh he (bP ord pre _ h1) (b9 dE _ l' h4) ?_ ?_ fuel L g a w hl hd
    ·rintro R' H'⟨b,rfl,rfl⟩ fuel L' g' a' w' hL eZ
     exact(ih b).2 w0 n ops mu df mk g0 ws H0 _ L' g' a' w' dE l' r fuel (tW hd eZ ck) h4 h3 eZ hL
    ·intro L2 g2 a2 w2 bm hp K hK
     have Eu:dY P g2:=tW hd bm ck
     have dn:=hh.co
     have lG:=bm.cW hh hp
     rw[iY]at dn lG
     obtain⟨b,bz⟩:=pT (r:=r) hh.ho dn bm.qN lG rfl hx hy
     refine bz _ _ (hK _ H g2 _ w2 ⟨b,rfl,rfl⟩ ?_)
     have:=bm.both hh he hp (.refl _ _) bm.sr (.bool b) (.refl _ _) fun _ _ _ _ _ _ _ _ _ e=>e
     rwa[vP]at this
 | @ni d xx gd s l R H Q b bi es ix cur hg hx hb hs _ ih =>
  refine⟨fun w0 g0 ws H0 g w a n ops mu is r hc ck sr hr le fr=>?_,fun w0 n ops mu df mk g0 ws H0 pre L g a w ord hO r fuel ck h1 h2 hd hl=>?_⟩
  ·obtain⟨i,oY,oper,rfl,ho,dn,cA⟩:=cd hc
   rw[wpOpsIn_cons]
   obtain⟨t,H',u,w',g',hM,bz,iT,fZ,dC,mW⟩:=sJ (r:=r) ho dn hr.1 (hr.rg (lF dn)) hg sr hx hb
   refine bz _ _ ?_
   have:=(ih t H' hM).1 w0 g0 ws H0 g' w' (a.put d u) n ops mu oY r cA (ck.mono iT) fZ (hr.put (by obtain⟨_,_,_,_,e,_,h5⟩:=aR dn;cases e;exact h5) iT dC) (le.trans iT) (fr.trans mW)
   rwa[fN,bF (dM dn)]at this
  ·obtain⟨x,l',dE,oper,rfl,iY,h3,hh,h4⟩:=eN h1 h2
   have vP:x.o.d=d:=by rw[iY]
   cases he:x.early with
   | true =>
    have:=(hh.kl he).1
    rw[iY]at this
    exact absurd (by cases d<;>rfl) this
   | false =>
    refine cV (Tl:=fun R' H2=>∃v,kY H b bi es ix v H2∧R'=a0 R d v) hh he (bP ord pre _ h1) (b9 dE _ l' h4) ?_ ?_ fuel L g a w hl hd
    ·rintro R' H'⟨v,hM,rfl⟩ fuel L' g' a' w' hL eZ
     exact(ih v H' hM).2 w0 n ops mu df mk g0 ws H0 _ L' g' a' w' dE l' r fuel (tW hd eZ ck) h4 h3 eZ hL
    ·intro L2 g2 a2 w2 bm hp K hK
     have Eu:dY P g2:=tW hd bm ck
     have dn:=hh.co
     have lG:=bm.cW hh hp
     rw[iY]at dn lG
     obtain⟨t,H',u,w',g',hM,bz,iT,fZ,dC,mW⟩:=sJ (r:=r) hh.ho dn bm.qN lG hg bm.sr hx hb
     refine bz _ _ (hK _ H' g' _ w' ⟨t,hM,rfl⟩ ?_)
     have ji:=bm.stays hh he hp (H':=H') (by rw[iY];exact hs t H' hM)
     have:=bm.both hh he hp iT fZ dC mW ji
     rwa[vP]at this
 | @shr f as H Q M _ h2 ih =>
  intro w0 g w args ck sr hv
  obtain⟨gH,hc⟩:=ih w0 g w args ck sr hv
  refine⟨gH,hc.mono fun e w3 ⟨v,t,g3,H3,he,hM,tV,uG,dC,xC⟩=>?_⟩
  obtain⟨t',b,cs,k,ht,kx,hb,hq⟩:=h2 _ _ hM
  cases ht
  have hφ:∃x,g3.φ b=some x:=by
   cases dC with
   | aB h=>simp only[nF]at kx;subst kx;exact⟨_,h⟩
   | bC hl h2 =>
    obtain⟨off,len,n,hm⟩:=kx
    obtain⟨i,hi⟩:=List.mem_iff_getElem?.1 hm
    have aE:=(List.getElem?_eq_some_iff.1 hi).1
    obtain⟨u,hu⟩:∃u,(Array.mk _)[i]?=some u:=⟨_,Array.getElem?_eq_getElem (Nat.lt_of_lt_of_eq aE hl.symm)⟩
    have:=h2 i _ _ hi hu
    cases this with
    | aB h=>exact⟨_,h⟩
   | _=>exact kx.elim
  obtain⟨vN,xD⟩:=uG.shrink k hb hφ
  exact⟨v,_,g3,_,he,hq,tV,vN,dC,xC.trans xD⟩
 | @Ji f as H Q fn M hf hn _ h2 ih =>
  intro w0 g w args ck sr hv
  obtain⟨an,rL⟩:=hE.fn f fn hf
  obtain⟨F,code,res,body,hF,hb,qS,qH,gH,aQ,aE,rfl⟩:=oo rL
  refine⟨gH,callsIn_of_wp_marks hF hb trivial ?_⟩
  have HN:=oq (F:=F) hv hn aQ
  refine wpIn_mono (ih w0 g w _ F.ntmps an true code none qH (fun _=>rfl) ck sr HN).1 fun e a' w' zz=>?_
  obtain⟨ex,R',g',H',e1,hm,le,fZ,jE,fr,rJ,_⟩:=zz
  obtain⟨R2,bs,hex,Kg,jR,Es,v0,HO,hq⟩:=h2 _ _ hm
  have OT:Mk g (gq as F.ntmps) []:=⟨[],by simp only[gq];rw[List.getD_eq_getElem?_getD,List.getElem?_eq_none (by simp only at hn;omega)];rfl,.nil⟩
  obtain⟨ts,yf,TB⟩:=rJ OT
  have qT:R2=R'→LeavesInM (Fw none) 0 P F a'.tmps (pS w0 g w H fun v H'=>Q (.val v) H') a'.defers .returning w':=by
   rintro rfl
   simp only at Kg hq HO
   rw[yf]at Kg
   refine qR ts a'.defers bs g' H' w' R2 a' _ TB Kg jR Es fZ jE (fun w2 v Er FR _ FT _ dC=>⟨v,_,g',_,rfl,hq,le.trans Er,FR,dC,fr.trans FT⟩) HO fun g w H sr hr ht=>om (P:=P) sr qS aE hr ht
  cases e<;>simp only[pg,Option.some.injEq,reduceCtorEq]at e1<;>subst e1
  case normal=>rcases hex with hex|hex<;>cases hex;exact qT rfl
  case exit id=>rcases hex with hex|hex<;>cases hex
  case ret=>rcases hex with hex|hex<;>cases hex;exact qT rfl
 | @fn f as H Q fn M hf TC hn _ h2 ih =>
  intro w0 g w args ck sr hv
  obtain⟨an,rL⟩:=hE.fn f fn hf
  obtain⟨F,code,res,body,hF,hb,qS,qH,gH,aQ,aE,rfl⟩:=oo rL
  refine⟨gH,callsIn_of_wp hF hb trivial ?_⟩
  have HN:=oq (F:=F) hv hn aQ
  refine wpIn_mono (ih w0 g w _ F.ntmps an true code none qH (fun _=>rfl) ck sr HN).1 fun e a' w' zz=>?_
  obtain⟨ex,R',g',H',e1,hm,le,fZ,jE,fr,_,vO⟩:=zz
  obtain⟨R2,hex,v0,HO,hq⟩:=h2 _ _ hm
  have qT:∀(R2:ax),R2=R'→kX R2 H' res=some v0→a'.defers=[]∧∃v,(results F a'.tmps).run P w'=.ok v w'∧pS w0 g w H (fun v H'=>Q (.val v) H') (.returned v) w':=by
   rintro R2 rfl HO
   obtain⟨v,bG,dC⟩:=om (P:=P) fZ qS aE jE HO
   exact⟨(vO TC).2,v,bG,v,_,g',H',rfl,hq,le,fZ,dC,fr⟩
  cases e<;>simp only[pg,Option.some.injEq,reduceCtorEq]at e1<;>subst e1
  case normal=>rcases hex with hex|hex<;>cases hex;exact qT _ rfl HO
  case exit id=>rcases hex with hex|hex<;>cases hex
  case ret=>rcases hex with hex|hex<;>cases hex;exact qT _ rfl HO
 | @yz f as H Q b off len n i M hi _ h2 ih =>
  intro w0 g w args ck sr hv
  have aE:=(List.getElem?_eq_some_iff.1 hi).1
  have hl:=hv.1
  have FU:=hv.2 i _ _ hi (List.getElem?_eq_getElem (by omega))
  have hex:∃c,len≤c∧VR g w (.dB b off len n c) (args[i]'(by omega)):=by
   generalize args[i]'(by omega)=u at FU
   cases FU with
   | aB h hc hq=>exact⟨_,hc,.dB h hc hq⟩
  obtain⟨c,hc,vD⟩:=hex
  have xl:a6 g w (as.set i (.dB b off len n c)) args:=⟨by simp[hl],fun j t v ha hb=>by
   by_cases e:j=i
   ·subst e
    rw[List.getElem?_set_self aE]at ha
    cases ha
    rw[List.getElem?_eq_getElem (by omega)]at hb
    cases hb
    exact vD
   ·rw[List.getElem?_set_ne (Ne.symm e)]at ha
    exact hv.2 j t v ha hb⟩
  obtain⟨gH,qH⟩:=ih c hc w0 g w args ck sr xl
  refine⟨gH,qH.mono fun e w3 ⟨v,t,g3,H3,he,hM,tV,uG,dC,xC⟩=>?_⟩
  exact⟨v,_,g3,H3,he,h2 _ _ hM,tV,uG,dC.FB,xC⟩
 | @m8 f as H Q M _ h2 ih =>
  intro w0 g w args ck sr hv
  obtain⟨gH,hc⟩:=ih w0 g w args ck sr hv
  refine⟨gH,hc.mono fun e w3 ⟨v,t,g3,H3,he,hM,tV,uG,dC,xC⟩=>?_⟩
  obtain⟨t',b,cs,ht,kx,hb,hq⟩:=h2 _ _ hM
  cases ht
  have hφ:∃x,g3.φ b=some x:=by
   cases dC with
   | aB h=>simp only[nF]at kx;subst kx;exact⟨_,h⟩
   | bC hl h2 =>
    obtain⟨off,len,n,hm⟩:=kx
    obtain⟨i,hi⟩:=List.mem_iff_getElem?.1 hm
    have aE:=(List.getElem?_eq_some_iff.1 hi).1
    obtain⟨u,hu⟩:∃u,(Array.mk _)[i]?=some u:=⟨_,Array.getElem?_eq_getElem (Nat.lt_of_lt_of_eq aE hl.symm)⟩
    have:=h2 i _ _ hi hu
    cases this with
    | aB h=>exact⟨_,h⟩
   | _=>exact kx.elim
  obtain⟨g4,sN,vN,xD,zx⟩:=uG.freeze hb hφ
  exact⟨v,_,g4,_,he,hq,tV.trans sN,vN,zx _ _ dC,xC.trans xD⟩
 | @yA f as H Q b off len n cs i hi hb _ ih =>
  intro w0 g w args ck sr hv
  have aE:=(List.getElem?_eq_some_iff.1 hi).1
  have hl:=hv.1
  have FU:=hv.2 i _ _ hi (List.getElem?_eq_getElem (by omega))
  have hφ:∃x,g.φ b=some x:=by
   generalize args[i]'(by omega)=u at FU
   cases FU with
   | aB h=>exact⟨_,h⟩
  obtain⟨g4,sN,vN,xD,zx⟩:=sr.freeze hb hφ
  have xl:a6 g4 w (as.map (rS b cs)) args:=⟨by simp[hl],fun j t v ha eR=>by
   rw[List.getElem?_map]at ha
   obtain⟨t0,h0,rfl⟩:=Option.map_eq_some_iff.1 ha
   exact zx _ _ (hv.2 j t0 v h0 eR)⟩
  obtain⟨gH,hc⟩:=ih w0 g4 w args (ck.mono sN) vN xl
  exact⟨gH,hc.mono fun e w3 ⟨v,t,g3,H3,he,hM,tV,uG,dC,xC⟩=>⟨v,t,g3,H3,he,hM,sN.trans tV,uG,dC,xD.trans xC⟩⟩
 | @Jj f as H Q b cs hk hb _ ih =>
  intro w0 g w args ck sr hv
  have hφ:∃x,g.φ b=some x:=by
   obtain⟨i,b',off,len,n,hi,hk⟩:=hk
   have aE:=(List.getElem?_eq_some_iff.1 hi).1
   have hl:=hv.1
   have FU:=hv.2 i _ _ hi (List.getElem?_eq_getElem (by omega))
   generalize args[i]'(by omega)=u at FU
   cases FU with
   | @aB _ _ _ _ r o q cap h0 =>
    rcases hk with rfl|⟨Te,j,yw,yx,n',eR,hc⟩
    ·exact⟨_,h0⟩
    ·have vD:∃v,VR g w (.aB b yw yx n') v:=by
      rcases eR with eR|eR
      ·obtain⟨_,v,_,xl⟩:=(sr.gF _ _ eR r o q h0).2.2 j _ hc
       exact⟨v,xl⟩
      ·obtain⟨_,v,_,xl⟩:=(sr.gF _ _ eR r o q h0).2 j _ hc
       exact⟨v,xl⟩
     obtain⟨v,vD⟩:=vD
     cases vD with
     | aB h=>exact⟨_,h⟩
  obtain⟨g4,sN,vN,xD⟩:=sr.Eb hb hφ
  obtain⟨gH,hc⟩:=ih w0 g4 w args (ck.mono sN) vN (hv.mono sN)
  exact⟨gH,hc.mono fun e w3 ⟨v,t,g3,H3,he,hM,tV,uG,dC,xC⟩=>⟨v,t,g3,H3,he,hM,sN.trans tV,uG,dC,xD.trans xC⟩⟩
 | @vw f as yB H Q hl TD _ ih =>
  intro w0 g w args ck sr hv
  exact ih w0 g w args ck sr ⟨hl.trans hv.1,fun j t v ha eR=>by
   have aE:=(List.getElem?_eq_some_iff.1 ha).1
   exact(TD j _ t (List.getElem?_eq_getElem (by omega)) ha).ok sr v (hv.2 j _ v (List.getElem?_eq_getElem (by omega)) eR)⟩
 | @l8 f as H Q h =>
  intro w0 g w args ck sr hv
  exact hE.l8 f as H _ h w0 g w args sr hv
inductive Sh where
 | int (k:IntKind)|str|bool
 | sl (l:List Sh)
 | ag (l:List Sh)
def xE (P:Program)(f:TypeId→Option (List Sh)):List Field→Nat→Option (List Sh)
 | [],_=>some []
 | x :: xs,off=>match f x.type with
  | some l=>if x.offset=off∧l.length=P.cellsOf x.type then(xE P f xs (off+l.length)).map (l++·)else none
  | none=>none
def vQ (k:Nat)(e:TypeId)(c:Nat):List Field:=(List.range k).map fun i=>{ (default:Field)with type:=e,offset:=i*c }
def ph (P:Program):Nat→TypeId→Option (List Sh)
 | 0,_=>none
 | n+1,t=>match P.underlying t with
  | some .bool=>some [.bool]
  | some (.int k)=>some [.int k]
  | some .string=>some [.str]
  | some (.slice e)=>match ph P n e with
   | some l=>if l.length=P.cellsOf e∧l.length≠0 then some [.sl l]else none
   | none=>none
  | some (.struct fs)=>match xE P (ph P n) fs.toList 0 with
   | some l=>if l.length=P.cellsOf t then some l else none
   | none=>none
  | some (.array k e)=>match xE P (ph P n) (vQ k e (P.cellsOf e)) 0 with
   | some l=>if l.length=P.cellsOf t then some l else none
   | none=>none
  | _=>none
inductive dq (B:Nat):Sh→T→Prop
 | int {k n} (h:(Lit.int k n).wf=true):dq B (.int k) (.int k n)
 | bool (b):dq B .bool (.bool b)
 | str {s:ByteArray} (h:s.size≤maxLen) (hB:s.size≤B):dq B .str (.str s)
 | nil {l}:dq B (.sl l) (.sl .nil [])
 | sl {l es} (hl:es.length≤maxLen) (hB:es.length≤B) (h0:∀c∈es,c.length=l.length) (h:∀c∈es,∀(j:Nat) (s:Sh) (t:T),l[j]?=some s→c[j]?=some t→dq B s t):dq B (.sl l) (.sl .arg es)
 | ag {l cs} (hl:cs.length=l.length) (h:∀(j:Nat) (s:Sh) (t:T),l[j]?=some s→cs[j]?=some t→dq B s t):dq B (.ag l) (.agg cs)
mutual
def T.bk:T→Nat
 | .str s=>s.size+1
 | .sl _ es=>Jy es+1
 | _=>1
def oZ:List T→Nat
 | []=>0
 | t :: ts=>t.bk+oZ ts
def Jy:List (List T)→Nat
 | []=>0
 | c :: es=>oZ c+Jy es
end
theorem Ev (a b:List T):oZ (a++b)=oZ a+oZ b:=by
 induction a with
 | nil=>simp[oZ]
 | cons t a ih=>simp only[List.cons_append,oZ,ih];omega
mutual
def bn {H:Type}:DataW H→Nat
 | .lit (.string bytes)=>bytes.length+1
 | .lit _=>1
 | .nil=>1
 | .ptr d=>bn d+1
 | .slice elems spare=>ba elems+ba spare+1
 | .agg parts=>ba parts+1
 | .iface _ d=>bn d+1
 | .map entries=>dN entries+1
 | .held _=>1
def ba {H:Type}:List (DataW H)→Nat
 | []=>0
 | d :: r=>bn d+ba r
def dN {H:Type}:List (Lit×DataW H)→Nat
 | []=>0
 | x :: r=>kG x+dN r
def kG {H:Type}:Lit×DataW H→Nat
 | (.string bytes,d)=>bytes.length+bn d+1
 | (_,d)=>bn d+1
end
theorem jr {H:Type}(d:DataW H):1≤bn d:=by
 cases d with
 | lit l=>cases l<;>simp[bn]
 | _=>simp[bn]
theorem mz {H:Type}{d:DataW H}{l:List (DataW H)}(h:d∈l):bn d≤ba l:=by
 induction l with
 | nil=>cases h
 | cons x r ih =>
  simp only[ba]
  rcases List.mem_cons.1 h with rfl|h
  ·omega
  ·have:=ih h;omega
theorem zA {H:Type}:∀(es:List (List T)) (ds:List (DataW H)),es.length≤ds.length→(∀(i:Nat) c d,es[i]?=some c→ds[i]?=some d→oZ c≤bn d)→Jy es≤ba ds
 | [],_,_,_=>by simp[Jy]
 | c :: es,[],h,_=>by simp at h
 | c :: es,d :: ds,h,hk=>by
  have h1:=hk 0 c d rfl rfl
  have h2:=zA es ds (by simpa using h) fun i c d a b=>hk (i+1) c d (by simpa using a) (by simpa using b)
  simp only[Jy,ba];omega
theorem zB {H:Type}(l:List (DataW H)):l.length≤ba l:=by
 induction l with
 | nil=>simp
 | cons x r ih=>have:=jr x;simp only[ba,List.length_cons];omega
def g0 (P:Program)(W:World):Ctx:=⟨fun _=>none,fun r _=>if r<W.heap.size then .hC else .free,fun _ _=>none,fun n c k=>∃an,aZ P n an false k=some c⟩
theorem TE (P:Program)(W:World):SR W (g0 P W) [] W where
 size:=Nat.le_refl _
 jb _ _:=rfl
 wX r o h:=by simp[g0,h]
 fresh r o h:=by simp only[g0];rw[if_neg (by omega)]
 nH b x h:=by simp[g0]at h
 ft t e x h:=by simp[g0]at h
 gF b x h:=by simp at h
 m8 r j h:=bL h
 env:=⟨rfl,rfl⟩
theorem TF (P:Program)(W:World):dY P (g0 P W):=fun _ _ _=>Iff.rfl
theorem vR {α:Type}{Q:Nat→α→Prop}:∀(n:Nat),(∀i,i<n→∃c,Q i c)→∃l:List α,l.length=n∧∀(i:Nat) (c:α),l[i]?=some c→Q i c
 | 0,_=>⟨[],rfl,by simp⟩
 | n+1,h=>by
  obtain⟨l,hl,hq⟩:=vR n fun i hi=>h i (by omega)
  obtain⟨c,hc⟩:=h n (by omega)
  refine⟨l++[c],by simp[hl],fun i d hd=>?_⟩
  by_cases hi:i<n
  ·rw[List.getElem?_append_left (by omega)]at hd;exact hq i d hd
  ·rw[List.getElem?_append_right (by omega)]at hd
   have:i=n:=by
    have:=(List.getElem?_eq_some_iff.1 hd).1;simp at this;omega
   subst this;simp[hl]at hd;subst hd;exact hc
section
variable {H:Type} {enc:TypeId×Value→H} {P:Program} {W:World} {held:Bool} {B:Nat}
theorem sQ {a:Addr}{n:Nat}{cs:List Value}(h:W.cells? 0 a n=some cs):cs.length=n∧∀(j:Nat) (v:Value),cs[j]?=some v→W.cell? (a.add j)=some v:=by
 unfold World.cells? at h
 rw[if_pos (Nat.zero_le _)]at h
 have key:∀(n:Nat) (cs:List Value),(List.range n).mapM (fun i=>W.cell? (a.add i))=some cs→cs.length=n∧∀(j:Nat) (v:Value),cs[j]?=some v→W.cell? (a.add j)=some v:=by
  intro n
  induction n with
  | zero=>intro cs h;simp at h;subst h;simp
  | succ n ih =>
   intro cs h
   rw[List.range_succ,List.mapM_append]at h
   cases h1:(List.range n).mapM (fun i=>W.cell? (a.add i))with
   | none=>simp[h1]at h
   | some l =>
    cases h2:W.cell? (a.add n)with
    | none=>simp[h1,h2]at h
    | some v =>
     simp[h1,h2]at h
     subst h
     obtain⟨k1,k2⟩:=ih l h1
     refine⟨by simp[k1],fun j u hj=>?_⟩
     by_cases ye:j<n
     ·rw[List.getElem?_append_left (by omega)]at hj;exact k2 j u hj
     ·rw[List.getElem?_append_right (by omega)]at hj
      have:j=n:=by
       have:=(List.getElem?_eq_some_iff.1 hj).1;simp at this;omega
      subst this;simp[k1]at hj;subst hj;exact h2
 exact key n cs h
def Reads (enc:TypeId×Value→H)(P:Program)(W:World)(held:Bool)(B:Nat)(t:TypeId)(l:List Sh):Prop :=
 ∀fuel cs d ps,DataW.trod enc P W 0 (fun _=>true) held fuel t cs=some (d,ps)→bn d≤B→cs.length=l.length∧∃ts:List T,a6 (g0 P W) W ts cs∧bJ ts∧(∀(j:Nat) (s:Sh) (t:T),l[j]?=some s→ts[j]?=some t→dq B s t)∧oZ ts≤bn d
theorem iC {f:TypeId→Option (List Sh)}{n:Nat}{cs:List Value}:∀(fs:List Field) (off:Nat) (l:List Sh) (xs:List (DataW H×List MemPlace)),xE P f fs off=some l→(∀x∈fs,∀l',f x.type=some l'→Reads enc P W held B x.type l') →
  xs.length=fs.length→(∀(i:Nat) (x:Field),fs[i]?=some x→DataW.trod enc P W 0 (fun _=>true) held n x.type ((cs.drop x.offset).take (P.cellsOf x.type))=xs[i]?)→(∀x∈xs,bn x.1≤B)→off+l.length≤cs.length →
  ∃ts:List T,a6 (g0 P W) W ts ((cs.drop off).take l.length)∧bJ ts∧(∀(j:Nat) (s:Sh) (t:T),l[j]?=some s→ts[j]?=some t→dq B s t)∧oZ ts≤ba (xs.map (·.1))
 | [],off,l,xs,h,_,_,_,_,_=>by
  simp only[xE,Option.some.injEq]at h;subst h
  exact⟨[],by simpa using a6.nil,by simp[bJ],by simp,by simp[oZ]⟩
 | x :: fs,off,l,xs,h,hr,hl,ht,hb,hle=>by
  simp only[xE]at h
  split at h
  ·rename_i l1 h1
   split at h
   ·rename_i hc
    simp only[Option.map_eq_some_iff]at h
    obtain⟨l2,h2,rfl⟩:=h
    cases xs with
    | nil=>simp at hl
    | cons y xs =>
     have t0:=ht 0 x rfl
     simp only[List.getElem?_cons_zero]at t0
     obtain⟨d,ps⟩:=y
     obtain⟨a1,Sa,a2,a3,a4,a5⟩:=hr x (by simp) l1 h1 n _ d ps t0 (hb (d,ps) (by simp))
     obtain⟨TG,b2,b3,b4,b5⟩:=iC fs (off+l1.length) l2 xs h2 (fun z hz=>hr z (by simp[hz])) (by simpa using hl) (fun i z hz=>by have:=ht (i+1) z (by simpa using hz);simpa using this) (fun z hz=>hb z (by simp[hz])) (by simp at hle;omega)
     have e1:(cs.drop off).take (l1++l2).length=(cs.drop x.offset).take (P.cellsOf x.type)++(cs.drop (off+l1.length)).take l2.length:=by
      rw[hc.1,←hc.2,List.length_append,List.take_add,List.drop_drop]
     have Km:Sa.length=l1.length:=by rw[a2.1,a1]
     refine⟨Sa++TG,by rw[e1];exact a2.append b2,fun t ht=>?_,fun j s t hs ht=>?_,by rw[Ev];simp only[List.map_cons,ba];omega⟩
     ·rcases List.mem_append.1 ht with h|h
      ·exact a3 t h
      ·exact b3 t h
     ·by_cases hj:j<l1.length
      ·rw[List.getElem?_append_left hj]at hs
       rw[List.getElem?_append_left (by omega)]at ht
       exact a4 j s t hs ht
      ·rw[List.getElem?_append_right (by omega)]at hs
       rw[List.getElem?_append_right (by omega),Km]at ht
       exact b4 _ s t hs ht
   ·cases h
  ·cases h
theorem HP {r o:Nat}{v:Value}(h:W.cell? ⟨r,o,none⟩=some v):ue (g0 P W) W r o v:=⟨by simp[g0,hY h],h⟩
theorem reads:∀(n:Nat) (t:TypeId) (l:List Sh),ph P n t=some l→Reads enc P W held B t l
 | 0,_,_,h=>by simp[ph]at h
 | n+1,t,l,h=>by
  intro fuel cs d ps hd hb
  simp only[ph]at h
  split at h
  ·rename_i hu;cases h
   obtain⟨b,rfl,hx⟩:=DataW.trod_bool hu hd
   exact⟨rfl,[.bool b],a6.cons (.bool b) a6.nil,by simp[bJ,T.one],fun j s t hs ht=>by cases j with
    | zero=>simp at hs ht;subst hs;subst ht;exact .bool b
    | succ j=>simp at hs,by have:=jr d;simp only[oZ,T.bk];omega⟩
  ·rename_i k hu;cases h
   obtain⟨m,rfl,hx,hw⟩:=DataW.trod_int hu hd
   exact⟨rfl,[.int k m],a6.cons (.int k m) a6.nil,by simp[bJ,T.one],fun j s t hs ht=>by cases j with
    | zero=>simp at hs ht;subst hs;subst ht;exact .int hw
    | succ j=>simp at hs,by have:=jr d;simp only[oZ,T.bk];omega⟩
  ·rename_i hu;cases h
   obtain⟨s,rfl,hx,hw⟩:=DataW.trod_string hu hd
   cases hx
   exact⟨rfl,[.str s],a6.cons (.str s) a6.nil,by simp[bJ,T.one],fun j s' t hs ht=>by cases j with
    | zero=>simp at hs ht;subst hs;subst ht;exact .str hw (by simp[bn]at hb;have:s.data.size=s.size:=rfl;omega)
    | succ j=>simp at hs,by simp only[oZ,T.bk,bn];have:s.data.size=s.size:=rfl;simp⟩
  ·rename_i e hu
   split at h
   ·rename_i le he
    split at h
    ·rename_i hc
     cases h
     have ih:=reads n e le he
     rcases DataW.trod_slice hu hd with⟨rfl,hx⟩|⟨a,len,cap,elems,rest,m,_,rfl,hx,_,h1,h2,h3,h4,h5,_⟩
     ·exact⟨rfl,[.sl .nil []],a6.cons .slnil a6.nil,by simp[bJ,T.one],fun j s t hs ht=>by cases j with
       | zero=>simp at hs ht;subst hs;subst ht;exact .nil
       | succ j=>simp at hs,by have:=jr d;simp only[oZ,T.bk,Jy];omega⟩
     ·cases hx
      have Kn:∀x∈elems,bn x.1≤B:=fun x hx=>by
       have:=mz (List.mem_map_of_mem (f:=(·.1)) hx);simp only[bn]at hb;omega
      have VN:len≤B:=by
       have:=zB (elems.map (·.1));simp only[bn]at hb;simp at this;omega
      have Hu:∀i,i<len→∃c:List T,c.length=le.length∧∃us,W.cells? 0 (a.add (i*P.cellsOf e)) (P.cellsOf e)=some us∧a6 (g0 P W) W c us∧bJ c∧(∀(j:Nat) (s:Sh) (t:T),le[j]?=some s→c[j]?=some t→dq B s t)∧∀d,(elems.map (·.1))[i]?=some d→oZ c≤bn d:=by
       intro i hi
       have hk:=h4 i hi
       have lY:i<elems.length:=by omega
       rw[List.getElem?_eq_getElem lY]at hk
       obtain⟨us,k1,k2⟩:=Option.bind_eq_some_iff.1 hk
       obtain⟨q1,ts,q2,q3,q4,q5⟩:=ih m us elems[i].1 elems[i].2 k2 (Kn _ (List.getElem_mem lY))
       exact⟨ts,by rw[q2.1,q1],us,k1,q2,q3,q4,fun d hd=>by rw[List.getElem?_map,List.getElem?_eq_getElem lY]at hd;simp only[Option.map_some,Option.some.injEq]at hd;subst hd;exact q5⟩
      obtain⟨es,Sb,C2⟩:=vR len Hu
      have Ko:dq B (.sl le) (.sl .arg es):=.sl (by omega) (by omega) (fun c hc=>by
       obtain⟨i,hi,rfl⟩:=List.getElem_of_mem hc
       exact(C2 i _ (List.getElem?_eq_getElem hi)).1) (fun c hc=>by
       obtain⟨i,hi,rfl⟩:=List.getElem_of_mem hc
       obtain⟨_,_,_,_,_,q,_⟩:=C2 i _ (List.getElem?_eq_getElem hi)
       exact q)
      have dC:VR (g0 P W) W (.sl .arg es) (.slice (some a) len cap):=by
       by_cases lh:cap=0
       ·have:len=0:=by omega
        subst this;subst lh
        have:es=[]:=List.eq_nil_of_length_eq_zero Sb
        subst this;exact .gu _
       ·have FV:a.spot=none:=by
         have jj:∃us,W.cells? 0 (a.add (0*P.cellsOf e)) (P.cellsOf e)=some us:=by
          by_cases hl:0<len
          ·obtain⟨_,_,us,k,_⟩:=Hu 0 hl;exact⟨us,k⟩
          ·have h0:len=0:=by omega
           obtain⟨k1,k2⟩:=h5 rfl
           have:=k2 0 (by omega)
           have hr:0<rest.length:=by omega
           rw[List.getElem?_eq_getElem hr,h0]at this
           obtain⟨us,k3,_⟩:=Option.bind_eq_some_iff.1 this
           exact⟨us,by simpa using k3⟩
         obtain⟨us,TH⟩:=jj
         obtain⟨k1,k2⟩:=sQ TH
         have uq:0<us.length:=by omega
         have jC:=k2 0 us[0] (List.getElem?_eq_getElem uq)
         unfold World.cell? at jC
         split at jC
         ·split at jC
          ·cases jC
          ·rename_i vu;simpa[Addr.add]using vu
         ·cases jC
        obtain⟨r,o,sp⟩:=a
        simp only at FV;subst FV
        rw[←Sb]
        have hn:∀c∈es,c.length=le.length:=fun c hc=>by
         obtain⟨i,hi,rfl⟩:=List.getElem_of_mem hc
         exact(C2 i _ (List.getElem?_eq_getElem hi)).1
        have jj:∀(i j:Nat) (c:List T) (t:T),es[i]?=some c→c[j]?=some t→∃v,W.cell? ⟨r,o+i*le.length+j,none⟩=some v∧VR (g0 P W) W t v∧t.one=true:=by
         intro i j c t hi hj
         obtain⟨q1,us,q2,q3,q4,_⟩:=C2 i c hi
         obtain⟨k1,k2⟩:=sQ q2
         have Sc:j<us.length:=by rw[←q3.1];exact(List.getElem?_eq_some_iff.1 hj).1
         refine⟨us[j],?_,q3.2 j t _ hj (List.getElem?_eq_getElem Sc),q4 t (List.mem_of_getElem? hj)⟩
         have:=k2 j us[j] (List.getElem?_eq_getElem Sc)
         rw[←hc.1,b7,b7]at this
         exact this
        refine .sl (n:=le.length) (fun i j=>(W.cell? ⟨r,o+i*le.length+j,none⟩).getD undef) trivial (by omega) hn (fun i j c t hi hj=>?_) (fun i j c t hi hj=>?_)
        ·obtain⟨v,q1,q2,q3⟩:=jj i j c t hi hj
         exact⟨q3,by rw[q1];exact HP q1⟩
        ·obtain⟨v,q1,q2,q3⟩:=jj i j c t hi hj
         rw[q1];exact q2
      exact⟨rfl,[.sl .arg es],a6.cons dC a6.nil,by simp[bJ,T.one],fun j s t hs ht=>by cases j with
       | zero=>simp at hs ht;subst hs;subst ht;exact Ko
       | succ j=>simp at hs,by
       have Sd:=zA es (elems.map (·.1)) (by simp;omega) fun i c d hc hd=>by
        obtain⟨_,_,_,_,_,_,q⟩:=C2 i c hc
        exact q d hd
       simp only[oZ,T.bk,bn];omega⟩
    ·cases h
   ·cases h
  ·rename_i fs hu
   split at h
   ·rename_i l' NH
    split at h
    ·rename_i hc
     cases h
     obtain⟨xs,m,_,hx,k1,k2,k3⟩:=DataW.trod_struct hu hd
     cases hx
     have Kn:∀x∈xs,bn x.1≤B:=fun x hx=>by
      have:=mz (List.mem_map_of_mem (f:=(·.1)) hx);simp only[bn]at hb;omega
     obtain⟨ts,a1,a2,a3,a4⟩:=iC (n:=m) (cs:=cs) fs.toList 0 l xs NH (fun x _ l2 h2=>reads n x.type l2 h2) (by simpa using k2) (fun i x hi=>k3 i x (by simpa using hi)) Kn (by omega)
     have e1:(cs.drop 0).take l.length=cs:=by rw[List.drop_zero,hc,←k1];simp
     rw[e1]at a1
     exact⟨by omega,ts,a1,a2,a3,by simp only[bn];omega⟩
    ·cases h
   ·cases h
  ·rename_i k e hu
   split at h
   ·rename_i l' NH
    split at h
    ·rename_i hc
     cases h
     obtain⟨xs,m,_,hx,k1,k2,k3⟩:=DataW.trod_array hu hd
     cases hx
     have Kn:∀x∈xs,bn x.1≤B:=fun x hx=>by
      have:=mz (List.mem_map_of_mem (f:=(·.1)) hx);simp only[bn]at hb;omega
     obtain⟨ts,a1,a2,a3,a4⟩:=iC (n:=m) (cs:=cs) (vQ k e (P.cellsOf e)) 0 l xs NH (fun x hx l2 h2=>by
      obtain⟨i,_,rfl⟩:=List.mem_map.1 hx;exact reads n e l2 h2) (by rw[k2];simp[vQ]) (fun i x hi=>by
      simp only[vQ,List.getElem?_map,Option.map_eq_some_iff]at hi
      obtain⟨j,hj,rfl⟩:=hi
      obtain⟨h1,h2⟩:=List.getElem?_eq_some_iff.1 hj
      rw[List.getElem_range]at h2
      subst h2
      exact k3 i (by simpa using h1)) Kn (by omega)
     have e1:(cs.drop 0).take l.length=cs:=by rw[List.drop_zero,hc,←k1];simp
     rw[e1]at a1
     exact⟨by omega,ts,a1,a2,a3,by simp only[bn];omega⟩
    ·cases h
   ·cases h
  ·cases h
def zC (P:Program)(t:TypeId):Option Sh:=match P.underlying t with
 | some .bool|some (.int _)|some .string|some (.slice _)=>match ph P 9 t with
  | some [s]=>some s
  | _=>none
 | some (.struct _)|some (.array _ _)=>match ph P 9 t with
  | some l=>some (.ag l)
  | none=>none
 | _=>none
def mA (P:Program):List TypeId→Option (List Sh)
 | []=>some []
 | t :: ts=>match zC P t,mA P ts with
  | some s,some l=>some (s :: l)
  | _,_=>none
inductive kH (B:Nat):List Sh→List T→Prop
 | nil:kH B [] []
 | cons {s t ss ts} (h:dq B s t) (hs:kH B ss ts):kH B (s :: ss) (t :: ts)
theorem zD {base:Nat}{t:TypeId}{s:Sh}{v:Value}{d:DataW H}{p:List MemPlace}(h:zC P t=some s)(hv:Value.okWide P W .any base t v)(hf:DataW.Trod enc P W 0 (fun _=>true) held t v d p)(hB:bn d≤B) :
  ∃u:T,VR (g0 P W) W u v∧dq B s u∧u.bk≤bn d:=by
 obtain⟨fuel,hf⟩:=hf
 have one:(∀cs,v≠.agg cs)→v.cells.toList=[v]:=by
  intro h;cases v<;>first|rfl|exact absurd rfl (h _)
 have sc:v.cells.toList=[v]→(match ph P 9 t with|some [s]=>some s|_=>none)=some s→∃u:T,VR (g0 P W) W u v∧dq B s u∧u.bk≤bn d:=by
  intro OU h
  split at h
  ·rename_i s' h3
   cases h
   obtain⟨c1,us,c2,c3,c4,c5⟩:=reads (B:=B) 9 t [s] h3 fuel _ d p hf hB
   rw[OU]at c2
   have Se:us.length=1:=by have:=c2.1;simpa using this
   obtain⟨u,rfl⟩:∃u,us=[u]:=by
    cases us with
    | nil=>simp at Se
    | cons u TI=>cases TI with
     | nil=>exact⟨u,rfl⟩
     | cons _ _=>simp at Se
   exact⟨u,c2.head,c4 0 s u rfl rfl,by simp only[oZ]at c5;omega⟩
  ·cases h
 have ag:(∃cs,v=.agg cs)→(match ph P 9 t with|some l=>some (Sh.ag l)|none=>none)=some s→∃u:T,VR (g0 P W) W u v∧dq B s u∧u.bk≤bn d:=by
  rintro⟨cs,rfl⟩ h
  split at h
  ·rename_i l h3
   cases h
   obtain⟨c1,us,c2,c3,c4,c5⟩:=reads (B:=B) 9 t l h3 fuel _ d p hf hB
   have hc:(Value.agg cs).cells.toList=cs.toList:=rfl
   rw[hc]at c1 c2
   refine⟨.agg us,.agg (by have:=c2.1;simpa using this.symm) c3 (fun i t v a b=>c2.2 i t v a (by simpa using b)),.ag (by rw[c2.1,c1]) c4,by have:=jr d;simp only[T.bk];omega⟩
  ·cases h
 simp only[zC]at h
 split at h
 ·rename_i hu
  exact sc (one (by rintro cs rfl;simp[Value.okWide,hu,Cell.okWide,Cell.ok]at hv)) h
 ·rename_i hu
  exact sc (one (by rintro cs rfl;simp[Value.okWide,hu,Cell.okWide,Cell.ok]at hv)) h
 ·rename_i hu
  exact sc (one (by rintro cs rfl;simp[Value.okWide,hu,Cell.okWide,Cell.ok]at hv)) h
 ·rename_i hu
  exact sc (one (by rintro cs rfl;simp[Value.okWide,hu,Cell.okWide,Cell.ok]at hv)) h
 ·rename_i hu
  exact ag (by cases v<;>first|exact⟨_,rfl⟩|simp[Value.okWide,hu]at hv) h
 ·rename_i hu
  exact ag (by cases v<;>first|exact⟨_,rfl⟩|simp[Value.okWide,hu]at hv) h
 ·cases h
theorem pX {base:Nat}:∀(ts:List TypeId) (yj:List Sh) (args:List Value) (ds:List (DataW H)) (p:List MemPlace),mA P ts=some yj→(∀(j:Nat) t v,ts[j]?=some t→args[j]?=some v→Value.okWide P W .any base t v) →
  DataW.TrodAll enc P W 0 (fun _=>true) held ts args ds p→ba ds≤B→∃as:List T,a6 (g0 P W) W as args∧kH B yj as∧oZ as≤ba ds
 | [],yj,args,ds,p,h,_,hA,_=>by
  cases args<;>cases ds<;>simp[DataW.TrodAll]at hA
  simp only[mA,Option.some.injEq]at h;subst h
  exact⟨[],a6.nil,.nil,by simp[oZ]⟩
 | t :: ts,yj,args,ds,p,h,sR,hA,hB=>by
  cases args with
  | nil=>cases ds<;>simp[DataW.TrodAll]at hA
  | cons v args =>
   cases ds with
   | nil=>simp[DataW.TrodAll]at hA
   | cons d ds =>
    obtain⟨p,q,hf,h2,_⟩:=hA
    simp only[mA]at h
    split at h
    ·rename_i s l h3 h4
     cases h
     simp only[ba]at hB
     obtain⟨as,b1,b2,b3⟩:=pX ts l args ds q h4 (fun j t v a b=>sR (j+1) t v (by simpa using a) (by simpa using b)) h2 (by omega)
     obtain⟨u,c1,c2,c3⟩:=zD (B:=B) (base:=base) (d:=d) (p:=p) h3 (sR 0 t v rfl rfl) hf (by omega)
     refine⟨u :: as,a6.cons c1 b1,.cons c2 b2,?_⟩
     show T.bk u+oZ as≤bn d+ba ds
     omega
    ·cases h
end
end Go.Rmp
end

section
namespace Go.Rmp
open Go.ChangeShapes Go.RowKit
section
variable {H:Type} {enc:TypeId×Value→H} {P:Program} {W W':World}
theorem kd {sp:Nat→Bool}{held:Bool}:∀(ts:List TypeId) (vs:List Value) (ds:List (DataW H)) (ps:List MemPlace),DataW.TrodAll enc P W 0 sp held ts vs ds ps→(∀p∈ps,W.sameAt W' p)→DataW.TrodAll enc P W' 0 sp held ts vs ds ps
 | [],[],[],_,h,_=>h
 | t :: ts,v :: vs,d :: ds,ps,⟨p,q,⟨n,hn⟩,h2,e⟩,hs=>⟨p,q,⟨n,DataW.trod_carry n t _ _ hn (fun x hx=>hs x (by rw[e];exact List.mem_append_left _ hx))⟩,kd ts vs ds q h2 (fun x hx=>hs x (by rw[e];exact List.mem_append_right _ hx)),e⟩
 | [],_ :: _,_,_,h,_=>h.elim
 | [],[],_ :: _,_,h,_=>h.elim
 | _ :: _,[],_,_,h,_=>h.elim
 | _ :: _,_ :: _,[],_,h,_=>h.elim
theorem zE {g:Ctx}{Hh:ae}(h:SR W g Hh W'):Grown W W':=by
 refine⟨⟨h.env.1,h.env.2,fun i hi=>?_⟩,fun a=>?_,h.size⟩
 ·rw[h.jb i hi]
  have:=World.keptBut_refl W (fun _=>False)
  exact this.2.2 i hi
 ·by_cases ha:a.block<W.heap.size
  ·unfold World.frozen?;rw[h.jb _ ha]
  ·have h1:=h.m8 a.block a.off (by omega)
   have h2:=bL (w:=W) (r:=a.block) (j:=a.off) (by omega)
   exact h1.trans h2.symm
theorem xF {E:Env}(hE:sG P E){f:FuncId}{as:List T}{args:List Value}(hv:a6 (g0 P W) W as args)(hW:Go.Rmp.W E (.call f as) [] (fun o _=>o=.val (.bool true))) :
  Calls P f args.toArray W fun e W'=>e=.returned (.bool true)∧Grown W W'∧∀r,r<W.heap.size→W'.heap[r]?=W.heap[r]?:=by
 obtain⟨_,hc⟩:=Go.Rmp.W.Tx hE hW W (g0 P W) W args (TF P W) (TE P W) hv
 refine(callsIn_wide.1 hc).mono fun e W' ⟨v,t,g',H',he,hq,_,sr,dC,_⟩=>?_
 cases hq
 cases dC
 exact⟨he,zE sr,sr.jb⟩
theorem pj {E:Env}(hE:sG P E){f:FuncId}{fn:Func}{s:ChangeSpec}{yj:List Sh}{B:Nat}{tb:TypeId}(K:Kids P (·<P.types.size))(hz:∀t e,t<P.types.size→P.underlying t=some (.slice e)→0<P.cellsOf e)
  (Ko:mA P fn.params.toList=some yj) (aE:∀t∈fn.params.toList,t<P.types.size) (NI:fn.resultTypes=#[tb]) (NJ:P.underlying tb=some .bool) (vS:s.vars=[])
  (rL:∀ds:List (DataW H),ds.length=fn.params.toList.length→s.fn H ds={ results:=[.lit (.bool true)],args:=ds })
  (HQ:∀as:List T,kH B yj as→oZ as≤B→Go.Rmp.W E (.call f as) [] (fun o _=>o=.val (.bool true)))
  (base:Nat) (args:Array Value) (ds gs:List (DataW H)) (before:List MemPlace)
  (sR:∀(j:Nat) t v,fn.params[j]?=some t→args[j]?=some v→Value.okWide P W .any base t v)
  (hW:DataW.Whole enc P fn.params.toList s.vars false W args.toList ds gs before) (hB:ba (ds++gs)≤B) :
  Calls P f args W fun e W'=>∃v,e=.returned v∧s.post enc P fn false true false false W args v W':=by
 have Sf:=hW
 obtain⟨p,q,hA,hV,Jo,VO,jR⟩:=hW
 rw[vS]at hV
 obtain⟨rfl,rfl⟩:gs=[]∧q=[]:=by
  cases gs with
  | nil=>exact⟨rfl,hV⟩
  | cons _ _=>exact hV.elim
 simp only[List.append_nil]at Jo hB
 subst Jo
 obtain⟨as,l3,TJ,Sd⟩:=pX fn.params.toList yj args.toList ds before Ko (fun j t v a b=>sR j t v (by simpa using a) (by simpa using b)) hA hB
 have hc:=xF hE l3 (HQ as TJ (Nat.le_trans Sd hB))
 rw[Array.toArray_toList]at hc
 refine hc.mono fun e W' ⟨he,hg,hold⟩=>⟨_,he,?_⟩
 have hlen:ds.length=fn.params.toList.length:=(trodAll_length hA).2
 have HR:=rL ds hlen
 refine post_of_same (pa:=before) (pv:=[]) Sf (fun b sp hd=>?_) (fun sp vu=>?_) (fun sp _=>?_) (by simp) (hg.frame _) hg.2.1 (fun j t r hj hr=>?_)
 ·rw[List.append_nil,HR,NI]
  simp only[Value.resultList]
  exact trodAll_mk1 (shut_bool NJ _)
 ·rw[List.append_nil,HR]
  refine DataW.TrodAll.respare K hz aE (kd _ _ _ _ hA fun x hx=>?_) vu
  have hb:=Sf.lt x hx
  cases x with
  | cell b o=>simp only[World.sameAt,World.cell?];rw[hold b hb]
  | map b=>exact hold b hb
 ·rw[List.append_nil,HR,vS];rfl
 ·rw[NI]at hj hr
  cases j with
  | zero=>simp[Value.resultList]at hj hr;subst hj;subst hr;exact okWide_bool_mk NJ _
  | succ j=>simp at hj
theorem qU {E:Env}(hE:sG P E){f:FuncId}{fn:Func}{s:ChangeSpec}{yj:List Sh}{B:Nat}{tb:TypeId}(K:Kids P (·<P.types.size))(hz:∀t e,t<P.types.size→P.underlying t=some (.slice e)→0<P.cellsOf e)
  (Ko:mA P fn.params.toList=some yj) (aE:∀t∈fn.params.toList,t<P.types.size) (NI:fn.resultTypes=#[tb]) (NJ:P.underlying tb=some .bool) (vS:s.vars=[])
  (rL:∀ds:List (DataW H),ds.length=fn.params.toList.length→s.fn H ds={ results:=[.lit (.bool true)],args:=ds })
  (HQ:∀as:List T,kH B yj as→Go.Rmp.W E (.call f as) [] (fun o _=>o=.val (.bool true)))
  (base:Nat) (args:Array Value) (ds gs:List (DataW H)) (before:List MemPlace)
  (sR:∀(j:Nat) t v,fn.params[j]?=some t→args[j]?=some v→Value.okWide P W .any base t v)
  (hW:DataW.Whole enc P fn.params.toList s.vars false W args.toList ds gs before) (hB:ba (ds++gs)≤B) :
  Calls P f args W fun e W'=>∃v,e=.returned v∧s.post enc P fn false true false false W args v W' :=
 pj hE K hz Ko aE NI NJ vS rL (fun as h _=>HQ as h) base args ds gs before sR hW hB
end
end Go.Rmp
end

section
namespace Go.Rmp
def rM (R:ax)(H:ae):List Rd→Prop
 | []=>True
 | r :: l=>(aV R r.g=true→av R H r.op=some (R r.d,H))∧rM R H l
theorem js {R:ax}{H:ae}:∀(l:List Rd),rM R H l→eX R H l
 | [],_=>fun r h=>by cases h
 | x :: l,h=>fun r hr=>by
  rcases List.mem_cons.1 hr with rfl|hr
  ·exact h.1
  ·exact js l h.2 r hr
theorem zF (R:ax)(d:Nat)(v:T):a0 R (some d) v=kQ R d v:=rfl
theorem zG (R:ax)(v:T):a0 R none v=R:=rfl
theorem zH (R:ax)(d:Nat)(v:T)(t:Nat):kQ R d v t=if t=d then v else R t:=rfl
theorem vT (a:T)(l:List T):gq (a :: l) 0=a:=rfl
theorem Kq (R:ax)(t:Nat):X.ev R (.r t)=R t:=rfl
theorem Kr (R:ax)(v:T):X.ev R (.c v)=v:=rfl
def zI (R:ax)(g:Gd)(s:List Rd):Bo→Prop
 | .l7 _ c x y=>g=none∧s=[]∧c=.slice∧x.ev R=.sl .arg []∧y.ev R=.sl .nil []
 | _=>False
structure OW (E:Env)(R:ax)(H:ae)(x:X)(az:List X)(P:ae→Bool→Prop)(b n:Nat)(R0:ax)(ps:List Nat)(cf body:C)(M1 M:Out→ae→Prop):Prop where
 hf:x.ev R=.mQ b
 hb:H[b]?=some (.loop .ready none n R0 ps cf body)
 hn:az.length=ps.length
 h1:W E (.code cf (kV R0 ps (az.map (X.ev R)))) H M1
 pr:∀o H',M1 o H'→(∃R1,o=.ex .normal R1)∧H'[b]?=some (.loop .ready none n R0 ps cf body)
 h2:∀R1 H1,M1 (.ex .normal R1) H1→W E (.code body R1) (H1.set b (.loop .busy none n R0 ps cf body)) M
 nG:∀o H',M o H'→H'[b]?=some (.loop .busy none n R0 ps cf body)
 h3:∀R' H',M (.ex .normal R') H'→P (H'.set b (.loop .ready none n R0 ps cf body)) true
 h4:∀e R' H',M (.ex e R') H'→e≠.normal→P (H'.set b (.loop .done (some e) n R0 ps cf body)) false
def zJ (R:ax)(H:ae)(b:Bo)(v:T)(H':ae):Prop:=∃n bytes t y bb len cs,b=.app n bytes false (.r t) y∧R t=.aB bb 0 len n∧H[bb]?=some (.cells cs)∧len*n=cs.length∧0<len ∧
 av (kQ R t (.sl (.own H.length len) (eY cs 0 len n))) (H.set bb (.fz cs)++[.tok len]) b=some (v,H')
def iD (E:Env):List O→ax→ae→(ax→ae→Prop)→Prop
 | [],R,H,K=>K R H
 | ⟨d,.b b,g,s⟩ :: l,R,H,K=>match aV R g with
  | false=>iD E l (a0 R d aW) H K
  | true=>match av R H b with
   | some (v,H')=>rM R H' s∧iD E l (a0 R d v) H' K
   | none=>(zI R g s b∧∀t:Bool,iD E l (a0 R d (.bool t)) H K) ∨
    (∃x bb bi es ix cur,b=.ni x∧x.ev R=.ptr bi 0∧H[bb]?=some (.eH es ix bi cur)∧∀t H',kY H bb bi es ix t H'→rM R H' s∧iD E l (a0 R d t) H' K) ∨
    ∃v H',zJ R H b v H'∧rM R H' s∧iD E l (a0 R d v) H' K
 | ⟨d,.call f az,g,s⟩ :: l,R,H,K=>match aV R g with
  | false=>iD E l (a0 R d aW) H K
  | true=>∃M:Out→ae→Prop,W E (.call f (az.map (X.ev R))) H M∧∀v H',M (.val v) H'→rM R H' s∧iD E l (a0 R d v) H' K
 | ⟨d,.cq x az,g,s⟩ :: l,R,H,K=>match aV R g with
  | false=>iD E l (a0 R d aW) H K
  | true=>(∃(f:Nat) (cs:List T) (M:Out→ae→Prop),x.ev R=.fn f cs∧W E (.call f (az.map (X.ev R)++cs)) H M∧∀v H',M (.val v) H'→rM R H' s∧iD E l (a0 R d v) H' K) ∨
   ∃b n R0 ps cf body M1 M,OW E R H x az (fun H' t=>rM R H' s∧iD E l (a0 R d (.bool t)) H' K) b n R0 ps cf body M1 M
theorem fc {E:Env}{Q:Out→ae→Prop}:∀(l:List O) (R:ax) (H:ae),iD E l R H (fun R' H'=>Q (.ex .normal R') H')→W E (.ops l R) H Q
 | [],R,H,h=>.nil h
 | ⟨d,.b b,g,s⟩ :: l,R,H,h=>by
  simp only[iD]at h
  split at h
  ·rename_i hw;exact .no hw (fc l _ _ h)
  ·rename_i hw
   split at h
   ·rename_i v H' he;exact .op hw he (js _ h.1) (fc l _ _ h.2)
   ·rcases h with h|⟨x,bb,bi,es,ix,cur,rfl,hx,hb,h⟩|⟨v,H',⟨n,bytes,t,y,bb,len,cs,rfl,ht,hb,hlen,h0,he⟩,h⟩
    ·cases b with
     | l7 neg c x y =>
      obtain⟨⟨hg,hs,hc,hx,hy⟩,h⟩:=h
      subst hg
      exact .ud hs (fun t=>fc l _ _ (h t)) hx hy hc
     | _=>exact h.1.elim
    ·exact .ni hw hx hb (fun t H' hm=>js _ (h t H' hm).1) fun t H' hm=>fc l _ _ (h t H' hm).2
    ·exact .Jk hw ht hb hlen h0 he (js _ h.1) (fc l _ _ h.2)
 | ⟨d,.call f az,g,s⟩ :: l,R,H,h=>by
  simp only[iD]at h
  split at h
  ·rename_i hw;exact .no hw (fc l _ _ h)
  ·rename_i hw
   obtain⟨M,h1,h2⟩:=h
   exact .call M hw h1 (fun v H' hm=>js _ (h2 v H' hm).1) (fun v H' hm=>fc l _ _ (h2 v H' hm).2)
 | ⟨d,.cq x az,g,s⟩ :: l,R,H,h=>by
  simp only[iD]at h
  split at h
  ·rename_i hw;exact .no hw (fc l _ _ h)
  ·rename_i hw
   rcases h with⟨f,cs,M,hf,h1,h2⟩|⟨b,n,R0,ps,cf,body,M1,M,h⟩
   ·exact .cq M hw hf h1 (fun v H' hm=>js _ (h2 v H' hm).1) (fun v H' hm=>fc l _ _ (h2 v H' hm).2)
   ·exact .mQ M1 M hw h.hf h.hb h.hn h.h1 h.pr h.h2 h.nG (fun R' H' hm=>js _ (h.h3 R' H' hm).1) (fun R' H' hm=>fc l _ _ (h.h3 R' H' hm).2) (fun e R' H' hm he=>js _ (h.h4 e R' H' hm he).1) (fun e R' H' hm he=>fc l _ _ (h.h4 e R' H' hm he).2)
def lH (K:ax→ae→Prop)(Q:Out→ae→Prop):Out→ae→Prop
 | .ex .normal R,H=>K R H
 | o,H=>Q o H
def kI (id:Nat)(Q:Out→ae→Prop):Out→ae→Prop
 | .ex (.exit i) R,H=>if i=id then Q (.ex .normal R) H else Q (.ex (.exit i) R) H
 | o,H=>Q o H
def fQ (E:Env):C→ax→ae→(Out→ae→Prop)→Prop
 | .skip,R,H,Q=>Q (.ex .normal R) H
 | .ops l,R,H,Q=>iD E l R H fun R' H'=>Q (.ex .normal R') H'
 | .seq a b,R,H,Q=>fQ E a R H (lH (fun R' H'=>fQ E b R' H' Q) Q)
 | .cond x a b,R,H,Q=>match x.ev R with
  | .bool true=>fQ E a R H Q
  | .bool false=>fQ E b R H Q
  | _=>False
 | .block id a,R,H,Q=>fQ E a R H (kI id Q)
 | .exit id,R,H,Q=>Q (.ex (.exit id) R) H
 | .ret,R,H,Q=>Q (.ex .ret R) H
 | .loop a,R,H,Q=>W E (.code (.loop a) R) H Q
 | .cg n x ps a b,R,H,Q=>W E (.code (.cg n x ps a b) R) H Q
theorem jt {E:Env}:∀(c:C) (R:ax) (H:ae) (Q:Out→ae→Prop),fQ E c R H Q→W E (.code c R) H Q
 | .skip,R,H,Q,h=>.skip h
 | .ops l,R,H,Q,h=>.G2 (fc l R H h)
 | .seq a b,R,H,Q,h=>.seq _ (jt a R H _ h) (fun R' H' hm=>jt b R' H' Q hm) (fun o H' hm hn=>by
  cases o with
  | ex e R'=>cases e with
   | normal=>exact absurd rfl (hn R')
   | exit id=>exact hm
   | ret=>exact hm
  | val v=>exact hm)
 | .cond x a b,R,H,Q,h=>by
  simp only[fQ]at h
  split at h
  ·rename_i hx;exact .cond true hx (jt a R H Q h)
  ·rename_i hx;exact .cond false hx (jt b R H Q h)
  ·exact h.elim
 | .block id a,R,H,Q,h=>.block _ (jt a R H _ h) (fun R' H' hm=>by simpa[kI]using hm) (fun o H' hm hn=>by
  cases o with
  | ex e R'=>cases e with
   | normal=>exact hm
   | exit i =>
    simp only[kI]at hm
    split at hm
    ·rename_i e;subst e;exact absurd rfl (hn R')
    ·exact hm
   | ret=>exact hm
  | val v=>exact hm)
 | .exit id,R,H,Q,h=>.exit h
 | .ret,R,H,Q,h=>.ret h
 | .loop a,R,H,Q,h=>h
 | .cg n x ps a b,R,H,Q,h=>h
section
variable (E:Env) (R:ax) (H:ae) (K:ax→ae→Prop) (Q:Out→ae→Prop) (l:List O) (d:Option Nat) (s:List Rd)
def NK:T→Bool
 | .bool c=>c
 | _=>false
def NL:T→Bool
 | .bool c=>!c
 | _=>false
def lI (b:Bo)(g:Gd)(e:Option (T×ae)):Prop:=match e with
 | some (v,H')=>rM R H' s∧iD E l (a0 R d v) H' K
 | none=>(zI R g s b∧∀t:Bool,iD E l (a0 R d (.bool t)) H K) ∨
  (∃x bb bi es ix cur,b=.ni x∧x.ev R=.ptr bi 0∧H[bb]?=some (.eH es ix bi cur)∧∀t H',kY H bb bi es ix t H'→rM R H' s∧iD E l (a0 R d t) H' K) ∨
  ∃v H',zJ R H b v H'∧rM R H' s∧iD E l (a0 R d v) H' K
def Ew (b:Bo)(g:Gd)(w:Bool):Prop:=match w with
 | false=>iD E l (a0 R d aW) H K
 | true=>lI E R H K l d s b g (av R H b)
def Ks (v:T)(H':ae):Prop:=rM R H' s∧iD E l (a0 R d v) H' K
def sS (f:Nat)(az:List T):Prop:=∃M:Out→ae→Prop,W E (.call f az) H M∧∀v H',M (.val v) H'→Ks E R K l d s v H'
def Ey (f:Nat)(az:List X)(w:Bool):Prop:=match w with
 | false=>iD E l (a0 R d aW) H K
 | true=>sS E R H K l d s f (az.map (X.ev R))
def uH (t:T)(az:List X):Prop:=match t with
 | .fn f cs=>sS E R H K l d s f (az.map (X.ev R)++cs)
 | _=>False
def FW (R:ax)(H:ae):Prop:=Q (.ex .normal R) H
def FX (b:C)(R:ax)(H:ae):Prop:=fQ E b R H Q
def zK (a b:C)(t:T):Prop:=match t with
 | .bool true=>fQ E a R H Q
 | .bool false=>fQ E b R H Q
 | _=>False
theorem FY:iD E [] R H K=K R H:=rfl
theorem Sg (b:Bo):iD E (⟨d,.b b,none,s⟩ :: l) R H K=lI E R H K l d s b none (av R H b):=rfl
theorem Si (b:Bo)(g:Nat×Bool):iD E (⟨d,.b b,some g,s⟩ :: l) R H K=Ew E R H K l d s b (some g) (aV R (some g)):=by simp only[iD,Ew];rfl
theorem Sj (f:Nat)(az:List X):iD E (⟨d,.call f az,none,s⟩ :: l) R H K=sS E R H K l d s f (az.map (X.ev R)):=rfl
theorem Kt (f:Nat)(az:List X)(g:Nat×Bool):iD E (⟨d,.call f az,some g,s⟩ :: l) R H K=Ey E R H K l d s f az (aV R (some g)):=by simp only[iD,Ey];rfl
theorem TK {x:X}{az:List X}(h:uH E R H K l d s (x.ev R) az):iD E (⟨d,.cq x az,none,s⟩ :: l) R H K:=by
 unfold uH at h
 split at h
 ·rename_i f cs hx
  obtain⟨M,h1,h2⟩:=h
  exact .inl ⟨f,cs,M,hx,h1,h2⟩
 ·exact h.elim
theorem Ku {g:Nat×Bool}{x:X}{az:List X}(hg:aV R (some g)=false):iD E (⟨d,.cq x az,some g,s⟩ :: l) R H K=iD E l (a0 R d aW) H K:=by
 simp only[iD,hg]
theorem zL (neg:Bool)(c:C8)(x y:X):lI E R H K l d s (.l7 neg c x y) none none=((s=[]∧c=.slice∧x.ev R=.sl .arg []∧y.ev R=.sl .nil [])∧∀t:Bool,iD E l (a0 R d (.bool t)) H K):=by simp only[lI,zI,zJ,true_and,reduceCtorEq,false_and,exists_false,or_false]
theorem zM (b:Bo)(g:Gd)(v:T)(H':ae):lI E R H K l d s b g (some (v,H'))=(rM R H' s∧iD E l (a0 R d v) H' K):=rfl
theorem FZ (b:Bo)(g:Gd):Ew E R H K l d s b g true=lI E R H K l d s b g (av R H b):=rfl
theorem F0 (b:Bo)(g:Gd):Ew E R H K l d s b g false=iD E l (a0 R d aW) H K:=rfl
theorem zN (f:Nat)(az:List X):Ey E R H K l d s f az true=sS E R H K l d s f (az.map (X.ev R)):=rfl
theorem zO (f:Nat)(az:List X):Ey E R H K l d s f az false=iD E l (a0 R d aW) H K:=rfl
theorem af {f:Nat}{az:List T}(M:Out→ae→Prop)(h1:W E (.call f az) H M)(h2:∀v H',M (.val v) H'→rM R H' s∧iD E l (a0 R d v) H' K):sS E R H K l d s f az:=⟨M,h1,h2⟩
theorem zP:fQ E .skip R H Q=Q (.ex .normal R) H:=rfl
theorem F1:fQ E (.ops l) R H Q=iD E l R H (FW Q):=rfl
theorem vU:FW Q R H=Q (.ex .normal R) H:=rfl
theorem dZ (a b:C):fQ E (.seq a b) R H Q=fQ E a R H (lH (FX E Q b) Q):=rfl
theorem zQ (x:X)(a b:C):fQ E (.cond x a b) R H Q=zK E R H Q a b (x.ev R):=rfl
theorem nu (id:Nat)(a:C):fQ E (.block id a) R H Q=fQ E a R H (kI id Q):=rfl
theorem zR (id:Nat):fQ E (.exit id) R H Q=Q (.ex (.exit id) R) H:=rfl
theorem F2:fQ E .ret R H Q=Q (.ex .ret R) H:=rfl
theorem zS (a:C):fQ E (.loop a) R H Q=W E (.code (.loop a) R) H Q:=rfl
theorem vV (n:Nat)(x:X)(ps:List Nat)(a b:C):fQ E (.cg n x ps a b) R H Q=W E (.code (.cg n x ps a b) R) H Q:=rfl
theorem bW (b:C):FX E Q b R H=fQ E b R H Q:=rfl
theorem zT (a b:C):zK E R H Q a b (.bool true)=fQ E a R H Q:=rfl
theorem zU (a b:C):zK E R H Q a b (.bool false)=fQ E b R H Q:=rfl
theorem cM (R:ax)(H:ae):lH K Q (.ex .normal R) H=K R H:=rfl
theorem zV (R:ax)(H:ae):lH K Q (.ex .ret R) H=Q (.ex .ret R) H:=rfl
theorem zW (id:Nat)(R:ax)(H:ae):lH K Q (.ex (.exit id) R) H=Q (.ex (.exit id) R) H:=rfl
theorem F3 (id:Nat)(R:ax)(H:ae):kI id Q (.ex .normal R) H=Q (.ex .normal R) H:=rfl
theorem F4 (id:Nat)(R:ax)(H:ae):kI id Q (.ex .ret R) H=Q (.ex .ret R) H:=rfl
theorem F5 (id i:Nat)(R:ax)(H:ae):kI id Q (.ex (.exit i) R) H=if i=id then Q (.ex .normal R) H else Q (.ex (.exit i) R) H:=rfl
theorem zX (t:Nat):aV R (some (t,true))=NK (R t):=by cases h:R t<;>simp[aV,NK,h]
theorem zY (t:Nat):aV R (some (t,false))=NL (R t):=by cases h:R t<;>simp[aV,NL,h]
theorem F6 (c:Bool):NK (.bool c)=c:=rfl
theorem F7:NK aW=false:=rfl
theorem F8:NL aW=false:=rfl
theorem F9 (c:Bool):NL (.bool c)=!c:=rfl
end
theorem W.fg {E:Env}{α:Type}{a:C}{R:ax}{H:ae}{Q:Out→ae→Prop}(I:α→ax→ae→Prop)(μ:α→Nat)(x:α)(h0:I x R H)
  (step:∀x R H,I x R H→fQ E a R H (lH (fun R' H'=>∃y,μ y<μ x∧I y R' H') Q)):W E (.code (.loop a) R) H Q:=by
 have key:∀(n:Nat) (x:α) (R:ax) (H:ae),μ x=n→I x R H→W E (.code (.loop a) R) H Q:=by
  intro n
  induction n using Nat.strongRecOn with
  | _ n ih =>
   intro x R H hn hI
   refine .loop _ (jt a R H _ (step x R H hI)) (fun R' H' hm=>?_) (fun o H' hm jn=>?_)
   ·obtain⟨y,hy,OX⟩:=hm
    exact ih (μ y) (hn▸hy) y R' H' rfl OX
   ·cases o with
    | ex e R'=>cases e with
     | normal=>exact absurd rfl (jn R')
     | exit id=>exact hm
     | ret=>exact hm
    | val v=>exact hm
 exact key _ x R H rfl h0
def uI (res:List Rs)(Q:Out→ae→Prop):Out→ae→Prop
 | .ex .normal R,H | .ex .ret R,H=>match kX R H res with
  | some v=>Q (.val v) H
  | none=>False
 | _,_=>False
theorem W.cQ {E:Env}{f:Nat}{fn:Fn}{az:List T}{H:ae}{Q:Out→ae→Prop}(hf:E.fn f=some fn)(hr:fn.body.iR=false)(hn:az.length=fn.np)(h:fQ E fn.body (gq az) H (uI fn.res Q)):W E (.call f az) H Q:=by
 refine .fn _ hf hr hn (jt _ _ _ _ h) fun o H' hm=>?_
 cases o with
 | ex e R =>
  cases e with
  | normal=>simp only[uI]at hm;split at hm;exact⟨R,.inl rfl,_,by assumption,hm⟩;exact hm.elim
  | exit id=>exact hm.elim
  | ret=>simp only[uI]at hm;split at hm;exact⟨R,.inr rfl,_,by assumption,hm⟩;exact hm.elim
 | val v=>exact hm.elim
theorem W.use {E:Env}{j:J}{H:ae}{Q Q':Out→ae→Prop}(h:W E j H Q)(hq:∀o H',Q o H'→Q' o H'):W E j H Q':=by
 induction h generalizing Q' with
 | skip h=>exact .skip (hq _ _ h)
 | exit h=>exact .exit (hq _ _ h)
 | ret h=>exact .ret (hq _ _ h)
 | G2 _ ih=>exact .G2 (ih hq)
 | seq M h1 h2 h3 _ kS=>exact .seq M h1 (fun R' H' hm=>kS R' H' hm hq) (fun o H' hm hn=>hq _ _ (h3 o H' hm hn))
 | cond t hx _ ih=>exact .cond t hx (ih hq)
 | block M h1 h2 h3 _=>exact .block M h1 (fun R' H' hm=>hq _ _ (h2 R' H' hm)) (fun o H' hm hn=>hq _ _ (h3 o H' hm hn))
 | loop M h1 h2 h3 _ kS=>exact .loop M h1 (fun R' H' hm=>kS R' H' hm hq) (fun o H' hm hn=>hq _ _ (h3 o H' hm hn))
 | nil h=>exact .nil (hq _ _ h)
 | no hg _ ih=>exact .no hg (ih hq)
 | op hg he hs _ ih=>exact .op hg he hs (ih hq)
 | call M hg h1 hs _ _ kS=>exact .call M hg h1 hs (fun v H' hm=>kS v H' hm hq)
 | cq M hg hf h1 hs _ _ kS=>exact .cq M hg hf h1 hs (fun v H' hm=>kS v H' hm hq)
 | mQ M1 M hg hf hb hn h1 pr h2 nG pt _ CV _ _ _ Jw Jx=>exact .mQ M1 M hg hf hb hn h1 pr h2 nG pt (fun R' H' hm=>Jw R' H' hm hq) CV (fun e R' H' hm he=>Jx e R' H' hm he hq)
 | ud hs h hx hy hc ih=>exact .ud hs (fun b=>ih b hq) hx hy hc
 | cg M hx h1 h2 _=>exact .cg M hx h1 (fun v H' hm=>let ⟨st,pe,a,b,c,d⟩:=h2 v H' hm;⟨st,pe,a,b,c,hq _ _ d⟩)
 | Ji M hf hn h1 h2 _=>exact .Ji M hf hn h1 (fun o H' hm=>let ⟨R',bs,a,b,c,d,v,e,f⟩:=h2 o H' hm;⟨R',bs,a,b,c,d,v,e,hq _ _ f⟩)
 | fn M hf hr hn h1 h2 _=>exact .fn M hf hr hn h1 (fun o H' hm=>let ⟨R',a,v,b,c⟩:=h2 o H' hm;⟨R',a,v,b,hq _ _ c⟩)
 | yz i M hi h1 h2 _=>exact .yz i M hi h1 (fun v H' hm=>hq _ _ (h2 v H' hm))
 | m8 M h1 h2 _=>exact .m8 M h1 (fun o H' hm=>let ⟨v,b,cs,a,c,d,e⟩:=h2 o H' hm;⟨v,b,cs,a,c,d,hq _ _ e⟩)
 | ni hg hx hb hs _ ih=>exact .ni hg hx hb hs fun t H' hm=>ih t H' hm hq
 | shr M h1 h2 _=>exact .shr M h1 (fun o H' hm=>let ⟨v,b,cs,k,a,c,d,e⟩:=h2 o H' hm;⟨v,b,cs,k,a,c,d,hq _ _ e⟩)
 | yA i hi hb _ ih=>exact .yA i hi hb (ih hq)
 | Jj hk hb _ ih=>exact .Jj hk hb (ih hq)
 | vw hl hv _ ih=>exact .vw hl hv (ih hq)
 | Jk hg ht hb hlen h0 he hs _ ih=>exact .Jk hg ht hb hlen h0 he hs (ih hq)
 | l8 h=>exact .l8 (E.mono _ _ _ _ _ h fun t H' hm=>hq _ _ hm)
def rN (v:T)(H:ae):Out→ae→Prop:=fun o H'=>o=.val v∧H'=H
theorem vW (v v':T)(H H':ae):rN v H (.val v') H'=(v'=v∧H'=H):=by simp[rN]
theorem vX (a b:T)(l:List T):gq (a :: b :: l) 1=b:=rfl
theorem vY (a b c:T)(l:List T):gq (a :: b :: c :: l) 2=c:=rfl
theorem vZ (a b c d:T)(l:List T):gq (a :: b :: c :: d :: l) 3=d:=rfl
theorem v3 (a b c d e:T)(l:List T):gq (a :: b :: c :: d :: e :: l) 4=e:=rfl
def Ez (v:T)(H:ae):Out→ae→Prop:=fun o H'=>o=.val v∧∃l,H'=H++l
theorem sU (v v':T)(H l:ae):Ez v H (.val v') (H++l)=(v'=v):=by simp[Ez]
theorem pY (v v':T)(H:ae):Ez v H (.val v') H=(v'=v):=by
 simp only[Ez,Out.val.injEq,eq_iff_iff]
 exact⟨fun h=>h.1,fun h=>⟨h,[],by simp⟩⟩
theorem aa (k:IntKind)(n:Nat):bd (.int k (n:Int))=some n:=by simp[bd]
theorem wrap64 {n:Int}(h:-9223372036854775808≤n∧n<9223372036854775808):IntKind.i64.wrap n=n:=by
 unfold IntKind.wrap
 simp only[IntKind.signed,IntKind.bits]
 simp
 omega
theorem eE {n:Int}(h:0≤n∧n<18446744073709551616):IntKind.u64.wrap n=n:=by
 unfold IntKind.wrap
 simp only[IntKind.signed,IntKind.bits]
 simp
 omega
theorem aJ {i:Nat}(h:i<9223372036854775807):IntKind.i64.wrap ((i:Int)+1)=((i+1:Nat):Int):=by rw[wrap64 (by omega)];simp
theorem mB {i:Nat}(h:i<9223372036854775807)(h1:1≤i):IntKind.i64.wrap ((i:Int)-1)=((i-1:Nat):Int):=by rw[wrap64 (by omega)];omega
theorem Kv (v:T):valOf false [v]=some v:=rfl
theorem Kw (cs:List T):valOf true cs=some (.agg cs):=rfl
theorem NM (a b:Nat):decide ((a:Int)<(b:Int))=decide (a<b):=by simp
theorem NN (a b:Nat):decide ((a:Int)≤(b:Int))=decide (a≤b):=by simp
theorem NO (a b:Nat):((a:Int)==(b:Int))=decide (a=b):=by rw[Bool.eq_iff_iff];simp;omega
theorem NP (a b:Nat):((a:Int) != (b:Int))=!decide (a=b):=by rw[Bool.eq_iff_iff];simp;omega
theorem zZ:∀(a:List UInt8),Op.bytesLess a a=false
 | []=>rfl
 | x :: a=>by simp[Op.bytesLess,zZ a]
theorem sV:∀(a b c:List UInt8),Op.bytesLess a b=true→Op.bytesLess b c=true→Op.bytesLess a c=true
 | _,[],_,h,_=>by cases ‹List UInt8›<;>simp[Op.bytesLess]at h
 | _,_ :: _,[],_,h=>by simp[Op.bytesLess]at h
 | [],_ :: _,_ :: _,_,_=>rfl
 | x :: a,y :: b,z :: c,h1,h2=>by
  simp only[Op.bytesLess,Bool.or_eq_true,decide_eq_true_eq,Bool.and_eq_true,beq_iff_eq]at h1 h2 ⊢
  rcases h1 with h1|⟨rfl,h1⟩
  ·rcases h2 with h2|⟨rfl,h2⟩
   ·exact .inl (UInt8.lt_trans h1 h2)
   ·exact .inl h1
  ·rcases h2 with h2|⟨rfl,h2⟩
   ·exact .inl h2
   ·exact .inr ⟨rfl,sV a b c h1 h2⟩
theorem z0:∀(a b:List UInt8),Op.bytesLess a b=false→Op.bytesLess b a=false→a=b
 | [],[],_,_=>rfl
 | [],_ :: _,h,_=>by simp[Op.bytesLess]at h
 | _ :: _,[],_,h=>by simp[Op.bytesLess]at h
 | x :: a,y :: b,h1,h2=>by
  simp only[Op.bytesLess,Bool.or_eq_false_iff,decide_eq_false_iff_not,Bool.and_eq_false_iff,beq_eq_false_iff_ne]at h1 h2
  have e:x=y:=by
   have a1:=h1.1;have a2:=h2.1
   exact UInt8.le_antisymm (UInt8.not_lt.1 a2) (UInt8.not_lt.1 a1)
  subst e
  rw[z0 a b (h1.2.resolve_left (fun h=>h rfl)) (h2.2.resolve_left (fun h=>h rfl))]
theorem toList_inj {a b:ByteArray}(h:a.toList=b.toList):a=b:=by
 have e:∀c:ByteArray,c.toList=c.data.toList:=fun c=>Go.ByteArray.toList_eq c
 rw[e,e]at h
 cases a;cases b
 simp only[ByteArray.mk.injEq]
 exact Array.toList_inj.1 h
theorem eP (a b:ByteArray):gn a b=decide (a=b):=by
 unfold gn
 rw[Bool.eq_iff_iff]
 simp only[beq_iff_eq,decide_eq_true_eq]
 exact⟨toList_inj,fun h=>by rw[h]⟩
theorem uJ (a:ByteArray):strLt a a=false:=zZ _
theorem mC {a b c:ByteArray}(h1:strLt a b=true)(h2:strLt b c=true):strLt a c=true:=sV _ _ _ h1 h2
theorem z1 {a b:ByteArray}(h1:strLt a b=false)(h2:strLt b a=false):a=b:=toList_inj (z0 _ _ h1 h2)
theorem lt_asymm {a b:ByteArray}(h:strLt a b=true):strLt b a=false:=by
 cases e:strLt b a with
 | false=>rfl
 | true=>have:=mC h e;rw[uJ]at this;cases this
theorem not_le (a b:ByteArray):(!(strLt b a||gn b a))=strLt a b:=by
 cases h:strLt a b with
 | true =>
  have h1:=lt_asymm h
  have h2:gn b a=false:=by rw[eP];simp;rintro rfl;rw[uJ]at h;cases h
  simp[h1,h2]
 | false =>
  cases h1:strLt b a with
  | true=>simp
  | false=>have:=z1 h h1;subst this;simp[eP]
def At (H:ae)(P:ae→Prop):Prop:=P H
theorem At.i {H:ae}{P:ae→Prop}(h:P H):At H P:=h
def Ext (H H':ae):Prop:=∃m,H'=H++m
theorem Ext.rfl' {H:ae}:Ext H H:=⟨[],by simp⟩
theorem Ext.trans {H H' x9:ae}(h:Ext H H')(h':Ext H' x9):Ext H x9:=by
 obtain⟨a,rfl⟩:=h;obtain⟨b,rfl⟩:=h';exact⟨a++b,by simp⟩
theorem Ext.app {H H':ae}(h:Ext H H')(l:ae):Ext H (H'++l):=h.trans ⟨l,rfl⟩
theorem Ext.set {H H':ae}(h:Ext H H'){b:Nat}(hb:H.length≤b)(x:B):Ext H (H'.set b x):=by
 obtain⟨m,rfl⟩:=h
 exact⟨m.set (b-H.length) x,by rw[List.set_append_right _ _ hb]⟩
theorem Ext.get {H H':ae}(h:Ext H H'){b:Nat}{x:B}(hx:H[b]?=some x):H'[b]?=some x:=by
 obtain⟨m,rfl⟩:=h
 have:=(List.getElem?_eq_some_iff.1 hx).1
 rw[List.getElem?_append_left this];exact hx
theorem Ext.len {H H':ae}(h:Ext H H'):H.length≤H'.length:=by obtain⟨m,rfl⟩:=h;simp
theorem bo {H:ae}{b:Nat}{x:B}(hx:H[b]?=some x):b<H.length:=(List.getElem?_eq_some_iff.1 hx).1
theorem bT {H l:ae}{x:B}{b:Nat}(h:b=H.length):(H++x :: l)[b]?=some x:=by subst h;simp
theorem gW {H l:ae}{b:Nat}(h:b<H.length):(H++l)[b]?=H[b]?:=by rw[List.getElem?_append_left h]
theorem gh {H:ae}{x:B}{b:Nat}(h:b<H.length):(H.set b x)[b]?=some x:=by simp[h]
theorem jS {H:ae}{x:B}{b c:Nat}(h:b≠c):(H.set b x)[c]?=H[c]?:=by simp[h]
theorem z2 {H l:ae}{x y:B}{b:Nat}(h:b=H.length):(H++x :: l).set b y=H++y :: l:=by subst h;simp
theorem Ga {H l:ae}{x:B}{b:Nat}(h:b<H.length):(H++l).set b x=H.set b x++l:=by rw[List.set_append_left _ _ h]
theorem Gb {H l:ae}{b:Nat}(h:b<H.length):(b<(H++l).length)=True:=by simp;omega
theorem Gc {H:ae}{x:B}{b c:Nat}:(b<(H.set c x).length)=(b<H.length):=by simp
theorem Ge {H:ae}{x:B}{b c:Nat}:(b=(H.set c x).length)=(b=H.length):=by simp
def jT (n off:Nat):Option B→Option (List T)
 | some (.cells cs)=>if off+n≤cs.length then some ((cs.drop off).take n)else none
 | some (.fz cs)=>if off+n≤cs.length then some ((cs.drop off).take n)else none
 | _=>none
theorem v5 (H:ae)(n b off:Nat):iU H n (.ptr b off)=jT n off H[b]?:=by
 simp only[iU,jT];rfl
theorem dP (H:ae)(n:Nat)(cs:List T):iU H n (.bh cs)=if n≤cs.length then some (cs.take n)else none:=rfl
theorem mD (n off:Nat)(cs:List T):jT n off (some (.cells cs))=if off+n≤cs.length then some ((cs.drop off).take n)else none:=rfl
def ou (H:ae)(b:Nat)(vs:List T)(off:Nat):Option B→Option ae
 | some (.cells cs)=>if off+vs.length≤cs.length then some (H.set b (.cells (cs.take off++vs++cs.drop (off+vs.length))))else none
 | _=>none
theorem v7 (H:ae)(vs:List T)(b off:Nat):Db H vs (.ptr b off)=ou H b vs off H[b]?:=by
 simp only[Db,ou];rfl
theorem kJ (H:ae)(b:Nat)(vs:List T)(off:Nat)(cs:List T):ou H b vs off (some (.cells cs))=if off+vs.length≤cs.length then some (H.set b (.cells (cs.take off++vs++cs.drop (off+vs.length))))else none:=rfl
theorem v8 (off b o:Nat):fH off (.ptr b o)=some (.ptr b (o+off)):=rfl
def lJ (id:Nat)(P:ax→ae→Prop)(Q:Out→ae→Prop):Out→ae→Prop
 | .ex (.exit i) R,H=>if i=id then P R H else Q (.ex (.exit i) R) H
 | o,H=>Q o H
theorem Kx (id:Nat)(P:ax→ae→Prop)(Q:Out→ae→Prop)(R:ax)(H:ae):lJ id P Q (.ex .normal R) H=Q (.ex .normal R) H:=rfl
theorem Ky (id:Nat)(P:ax→ae→Prop)(Q:Out→ae→Prop)(R:ax)(H:ae):lJ id P Q (.ex .ret R) H=Q (.ex .ret R) H:=rfl
theorem Kz (id i:Nat)(P:ax→ae→Prop)(Q:Out→ae→Prop)(R:ax)(H:ae):lJ id P Q (.ex (.exit i) R) H=if i=id then P R H else Q (.ex (.exit i) R) H:=rfl
theorem W.bU {E:Env}{α:Type}{a:C}{R:ax}{H:ae}{Q:Out→ae→Prop}(id:Nat)(I:α→ax→ae→Prop)(μ:α→Nat)(x:α)(P:ax→ae→Prop)(h0:I x R H)
  (step:∀x R H,I x R H→fQ E a R H (lH (fun R' H'=>∃y,μ y<μ x∧I y R' H') (lJ id P Q))) (rest:∀R H,P R H→Q (.ex (.exit id) R) H):W E (.code (.loop a) R) H Q :=
 W.use (W.fg I μ x h0 step) fun o H' h=>by
  cases o with
  | ex e R'=>cases e with
   | exit i=>simp only[lJ]at h;split at h;rename_i e;subst e;exact rest _ _ h;exact h
   | normal=>exact h
   | ret=>exact h
  | val v=>exact h
def fR {α β:Type}[DecidableEq α](es:List (α×β))(k:α):Option β:=(es.find? fun e=>decide (k=e.1)).map (·.2)
def kK {α β:Type}[DecidableEq α](es:List (α×β))(k:α)(v:β):List (α×β) :=
 match es.findIdx? fun e=>decide (k=e.1)with
 | some i=>es.set i (k,v)
 | none=>es++[(k,v)]
section
variable {α β:Type} [DecidableEq α]
theorem iE (e:α×β)(es:List (α×β))(k:α):fR (e :: es) k=if k=e.1 then some e.2 else fR es k:=by
 unfold fR;rw[List.find?_cons];by_cases h:k=e.1<;>simp[h]
theorem z3 (k:α)(v:β):kK [] k v=[(k,v)]:=rfl
theorem xG (e:α×β)(es:List (α×β))(k:α)(v:β):kK (e :: es) k v=if k=e.1 then(k,v) :: es else e :: kK es k v:=by
 unfold kK;rw[List.findIdx?_cons]
 by_cases h:k=e.1
 ·simp[h]
 ·simp only[h,decide_false,if_false,Bool.false_eq_true]
  cases List.findIdx? (fun e=>decide (k=e.1)) es<;>simp
theorem mE (es:List (α×β))(k k':α)(v:β):fR (kK es k v) k'=if k'=k then some v else fR es k':=by
 induction es with
 | nil=>rw[z3,iE]
 | cons e es ih =>
  rw[xG]
  by_cases h:k=e.1
  ·simp only[h,if_true,iE];by_cases h':k'=e.1<;>simp[h']
  ·simp only[h,if_false,iE,ih]
   by_cases h':k'=e.1
   ·subst h';simp[Ne.symm h]
   ·simp[h']
theorem xH (es:List (α×β))(k:α):fR es k=match es.findIdx? fun e=>decide (k=e.1)with
  | some i=>(es[i]?).map (·.2)
  | none=>none:=by
 induction es with
 | nil=>rfl
 | cons e es ih =>
  rw[iE,List.findIdx?_cons]
  by_cases h:k=e.1
  ·simp[h]
  ·simp only[h,if_false,decide_false,Bool.false_eq_true,ih]
   cases List.findIdx? (fun e=>decide (k=e.1)) es<;>simp
theorem z4 {es:List (α×β)}{k:α}{i:Nat}(h:(es.findIdx? fun e=>decide (k=e.1))=some i):∃v,es[i]?=some (k,v):=by
 rw[List.findIdx?_eq_some_iff_getElem]at h
 obtain⟨hi,h,-⟩:=h
 refine⟨es[i].2,?_⟩
 rw[List.getElem?_eq_getElem hi]
 simp only[decide_eq_true_eq]at h
 rw[h]
end
def gI {α:Type}(ek:α→T)(es:List (α×T)):List (T×T):=es.map fun e=>(ek e.1,e.2)
structure sW {α:Type}[DecidableEq α](kt:KT)(ek:α→T):Prop where
 has:∀a,(ek a).gE kt=true
 eq:∀a b,gp (ek a) (ek b)=some (decide (a=b))
section
variable {α:Type} [DecidableEq α] {kt:KT} {ek:α→T}
theorem uK (ho:sW kt ek)(k:α):∀es:List (α×T),cw (ek k) (gI ek es)=some (es.findIdx? fun e=>decide (k=e.1))
 | []=>rfl
 | e :: es=>by
  have ih:=uK ho k es
  simp only[gI]at ih ⊢
  simp only[List.map_cons,cw,ho.eq,List.findIdx?_cons]
  cases h:decide (k=e.1)
  ·simp[ih]
  ·simp
def sX (o:Option T)(z:T)(ok:Bool):T:=match o with
 | some v=>if ok then .bC [v,.bool true]else v
 | none=>if ok then .bC [z,.bool false]else z
def uL (kt:KT)(z:T)(ok:Bool)(H:ae)(mb:Option B)(k:T):Option (T×ae):=match mb with
 | some (.map es)=>if k.gE kt then match cw k es with
  | some (some i)=>match es[i]? with
   | some e=>some (if ok then .bC [e.2,.bool true]else e.2,H)
   | none=>none
  | some none=>some (if ok then .bC [z,.bool false]else z,H)
  | none=>none else none
 | some (.eH es _ _ _)=>if k.gE kt then match cw k es with
  | some (some i)=>match es[i]? with
   | some e=>some (if ok then .bC [e.2,.bool true]else e.2,H)
   | none=>none
  | some none=>some (if ok then .bC [z,.bool false]else z,H)
  | none=>none else none
 | _=>none
def HS (kt:KT)(z:T)(ok:Bool)(H:ae)(m k:T):Option (T×ae):=match m with
 | .map b=>uL kt z ok H H[b]? k
 | .eG=>if k.gE kt then some (if ok then .bC [z,.bool false]else z,H)else none
 | _=>none
theorem z5 (R:ax)(H:ae)(kt:KT)(z:T)(ok:Bool)(m k:X):av R H (.oU kt z ok m k)=HS kt z ok H (m.ev R) (k.ev R):=by
 unfold HS uL
 simp only[av]
 cases h1:(k.ev R).gE kt
 ·simp only[Bool.false_eq_true,if_false]
  cases m.ev R with
  | map b=>simp only;split<;>rfl
  | _=>rfl
 ·simp only[if_true]
  cases m.ev R with
  | map b =>
   simp only[eJ]
   cases H[b]? with
   | none=>rfl
   | some x=>cases x<;>rfl
  | eG=>simp only[eJ,cw]
  | _=>rfl
theorem sY (kt:KT)(z:T)(ok:Bool)(H:ae)(b:Nat)(k:T):HS kt z ok H (.map b) k=uL kt z ok H H[b]? k:=rfl
theorem z6 (ho:sW kt ek)(z:T)(ok:Bool)(H:ae)(es:List (α×T))(s:α):uL kt z ok H (some (.map (gI ek es))) (ek s)=some (sX (fR es s) z ok,H):=by
 simp only[uL,ho.has,uK ho,if_true,xH]
 cases h:List.findIdx? (fun e=>decide (s=e.1)) es with
 | none=>cases ok<;>rfl
 | some i =>
  obtain⟨v,hv⟩:=z4 h
  have:(gI ek es)[i]?=some (ek s,v):=by simp[gI,hv]
  simp only[this,hv,sX,Option.map_some]
def uM (kt:KT)(H:ae)(b:Nat)(mb:Option B)(k v:T):Option (T×ae):=match mb with
 | some (.map es)=>if k.gE kt then match cw k es with
  | some (some i)=>some (aW,H.set b (.map (es.set i (k,v))))
  | some none=>some (aW,H.set b (.map (es++[(k,v)])))
  | none=>none else none
 | _=>none
def HT (kt:KT)(H:ae)(m k v:T):Option (T×ae):=match m with
 | .map b=>uM kt H b H[b]? k v
 | _=>none
theorem z7 (R:ax)(H:ae)(kt:KT)(m k v:X):av R H (.x7 kt m k v)=HT kt H (m.ev R) (k.ev R) (v.ev R):=by
 unfold HT uM
 simp only[av]
 cases m.ev R with
 | map b =>
  simp only
  cases h1:(k.ev R).gE kt
  ·simp only[Bool.false_eq_true,if_false];split<;>rfl
  ·simp only[if_true]
   cases H[b]? with
   | none=>rfl
   | some x=>cases x<;>rfl
 | _=>rfl
def HU (kt:KT)(H:ae)(b:Nat)(mb:Option B)(k:T):Option (T×ae):=match mb with
 | some (.map es)=>if k.gE kt then match cw k es with
  | some (some i)=>some (.bC [],H.set b (.map (es.eraseIdx i)))
  | some none=>some (.bC [],H)
  | none=>none else none
 | _=>none
def HV (kt:KT)(H:ae)(m k:T):Option (T×ae):=match m with
 | .map b=>HU kt H b H[b]? k
 | _=>none
theorem z9 (R:ax)(H:ae)(kt:KT)(m k:X):av R H (.del kt m k)=HV kt H (m.ev R) (k.ev R):=by
 unfold HV HU
 simp only[av]
 cases m.ev R with
 | map b =>
  simp only
  cases h1:(k.ev R).gE kt
  ·simp only[Bool.false_eq_true,if_false];split<;>rfl
  ·simp only[if_true]
   cases H[b]? with
   | none=>rfl
   | some x=>cases x<;>rfl
 | _=>rfl
theorem sZ (kt:KT)(H:ae)(b:Nat)(k:T):HV kt H (.map b) k=HU kt H b H[b]? k:=rfl
def HW (H:ae)(b:Nat):Option B→Option (T×ae)
 | some (.map es)=>some (.ptr H.length 0,H.set b (.eH es (List.range es.length) H.length none)++[.x8 b])
 | some (.eH es _ _ _)=>some (.ptr H.length 0,H.set b (.eH es (List.range es.length) H.length none)++[.x8 b])
 | _=>none
def HX (H:ae):T→Option (T×ae)
 | .map b=>HW H b H[b]?
 | _=>none
theorem Aa (R:ax)(H:ae)(x:X):av R H (.JG x)=HX H (x.ev R):=by
 simp only[av]
 cases x.ev R with
 | map b =>
  simp only[eJ,HX]
  cases H[b]? with
  | none=>rfl
  | some y=>cases y<;>rfl
 | _=>rfl
theorem s7 (H:ae)(b:Nat):HX H (.map b)=HW H b H[b]?:=rfl
theorem Ab (H:ae)(b:Nat)(es:List (T×T)):HW H b (some (.map es))=some (.ptr H.length 0,H.set b (.eH es (List.range es.length) H.length none)++[.x8 b]):=rfl
theorem Ac (R:ax)(H:ae)(x:X):av R H (.ni x)=none:=rfl
def EA (H:ae)(bi:Nat):Option B→Option (T×ae)
 | some (.eH es _ FC (some c))=>if FC=bi then(es[c]?).map fun e=>(.bC [e.1,e.2],H)else none
 | _=>none
def EB (H:ae)(bi:Nat):Option B→Option (T×ae)
 | some (.x8 b)=>EA H bi H[b]?
 | _=>none
def HY (H:ae):T→Option (T×ae)
 | .ptr bi 0=>EB H bi H[bi]?
 | _=>none
theorem Ad (R:ax)(H:ae)(x:X):av R H (.JH x)=HY H (x.ev R):=by
 simp only[av]
 cases x.ev R with
 | ptr bi o =>
  cases o with
  | zero =>
   simp only[HY]
   cases H[bi]? with
   | none=>rfl
   | some y=>cases y with
    | x8 b =>
     simp only[EB]
     cases H[b]? with
     | none=>rfl
     | some z=>cases z with
      | eH es ix FC cur=>cases cur<;>rfl
      | _=>rfl
    | _=>rfl
  | succ _=>rfl
 | _=>rfl
theorem s8 (H:ae)(bi:Nat):HY H (.ptr bi 0)=EB H bi H[bi]?:=rfl
theorem Ae (H:ae)(bi b:Nat):EB H bi (some (.x8 b))=EA H bi H[b]?:=rfl
theorem Af (H:ae)(bi:Nat)(es:List (T×T))(ix:List Nat)(c:Nat):EA H bi (some (.eH es ix bi (some c)))=(es[c]?).map fun e=>(.bC [e.1,e.2],H):=by simp only[EA,if_true]
def HZ (H:ae)(b off len n n':Nat)(z:List T):Option B→Option (T×ae)
 | some (.cells cs)=>if n'=n∧z.length=n∧off+len*n≤cs.length then some (aW,H.set b (.cells (cs.take off++(List.replicate len z).flatten++cs.drop (off+len*n))))else none
 | _=>none
def Ia (H:ae)(n:Nat)(z:List T):T→Option (T×ae)
 | .aB b off len n'=>HZ H b off len n n' z H[b]?
 | _=>none
theorem Ag (R:ax)(H:ae)(n:Nat)(z:List T)(x:X):av R H (.Je n z x)=Ia H n z (x.ev R):=by
 simp only[av]
 cases x.ev R with
 | aB b off len n' =>
  simp only[Ia]
  cases H[b]? with
  | none=>rfl
  | some y=>cases y<;>rfl
 | _=>rfl
theorem oA (H:ae)(n:Nat)(z:List T)(b off len n':Nat):Ia H n z (.aB b off len n')=HZ H b off len n n' z H[b]?:=rfl
theorem s9 (kt:KT)(H:ae)(b:Nat)(k v:T):HT kt H (.map b) k v=uM kt H b H[b]? k v:=rfl
theorem Ah (ho:sW kt ek)(H:ae)(b:Nat)(es:List (α×T))(s:α)(v:T):uM kt H b (some (.map (gI ek es))) (ek s) v=some (aW,H.set b (.map (gI ek (kK es s v)))):=by
 simp only[uM,ho.has,uK ho,if_true,kK]
 cases h:List.findIdx? (fun e=>decide (s=e.1)) es with
 | none=>simp[gI]
 | some i=>simp[gI]
end
theorem KA:sW (.sc .str) T.str:=⟨fun _=>rfl,fun a b=>by simp only[gp,gM,eP]⟩
def kU (n:Nat):T:=.int .u64 n
theorem KB:sW (.sc .int) kU:=⟨fun _=>rfl,fun a b=>by simp only[kU,gp,gM,if_true,NO]⟩
theorem Ai (z:T)(ok:Bool)(H:ae)(es:List (ByteArray×T))(s:ByteArray):uL (.sc .str) z ok H (some (.map (gI T.str es))) (.str s)=some (sX (fR es s) z ok,H):=z6 KA z ok H es s
theorem Aj (z:T)(ok:Bool)(H:ae)(es:List (Nat×T))(s:Nat):uL (.sc .int) z ok H (some (.map (gI kU es))) (.int .u64 s)=some (sX (fR es s) z ok,H):=z6 KB z ok H es s
theorem Al (H:ae)(b:Nat)(es:List (ByteArray×T))(s:ByteArray)(v:T):uM (.sc .str) H b (some (.map (gI T.str es))) (.str s) v=some (aW,H.set b (.map (gI T.str (kK es s v)))):=Ah KA H b es s v
theorem Am (H:ae)(b:Nat)(es:List (Nat×T))(s:Nat)(v:T):uM (.sc .int) H b (some (.map (gI kU es))) (.int .u64 s) v=some (aW,H.set b (.map (gI kU (kK es s v)))):=Ah KB H b es s v
theorem ta (v z:T):sX (some v) z false=v:=rfl
theorem td (z:T):sX none z false=z:=rfl
theorem pZ (v z:T):sX (some v) z true=.bC [v,.bool true]:=rfl
theorem p0 (z:T):sX none z true=.bC [z,.bool false]:=rfl
theorem p9 (l:List T):(T.agg l).cells?=some l:=rfl
theorem qa (k:IntKind)(n:Int):(T.int k n).cells?=some [.int k n]:=rfl
theorem qb (s:ByteArray):(T.str s).cells?=some [.str s]:=rfl
theorem oB (s:Bool):(T.bool s).cells?=some [.bool s]:=rfl
theorem te (k:SK)(l:List (List T)):(T.sl k l).cells?=some [.sl k l]:=rfl
theorem qc (a b c d:Nat):(T.aB a b c d).cells?=some [.aB a b c d]:=rfl
theorem qd (b:Nat):(T.map b).cells?=some [.map b]:=rfl
theorem qe (a b:Nat):(T.ptr a b).cells?=some [.ptr a b]:=rfl
theorem oC:(T.eG).cells?=some [.eG]:=rfl
theorem oD:(T.bI).cells?=some [.bI]:=rfl
theorem KC (v:T):wV [v]=v:=rfl
theorem KD (v w:T):wV [v,w]=.bC [v,w]:=rfl
theorem KE (v w x:T):wV [v,w,x]=.bC [v,w,x]:=rfl
theorem Ao (k:IntKind)(n:Int):(T.int k n).erase=.int k n:=rfl
theorem Ap (s:ByteArray):(T.str s).erase=.str s:=rfl
theorem v9 (s:Bool):(T.bool s).erase=.bool s:=rfl
theorem Gf (k:SK)(l:List (List T)):(T.sl k l).erase=.sl .arg l:=rfl
theorem Aq (a b:Nat):(T.ptr a b).erase=.ptr a b:=rfl
theorem uN (b:Nat):(T.map b).erase=.map b:=rfl
theorem we:(T.eG).erase=.eG:=rfl
theorem wg:(T.bI).erase=.bI:=rfl
theorem Gg (H:ae)(n:Nat)(k:SK)(es:List (List T)):bl H n (.sl k es)=if es.all (·.length==n)then some es else none:=rfl
theorem Ar (R:ax):aV R Option.none=true:=rfl
theorem As (p:Prop):(True→p)=p:=by simp
theorem Gh (p:Prop):(p→True)=True:=by simp
theorem Gi (p:Prop):(true=true→p)=p:=by simp
theorem Gj (p:Prop):(false=true→p)=True:=by simp
theorem Au (b:Bool):Jg .not (.bool b)=some (.bool !b):=rfl
theorem Av (k:IntKind)(a b:Int):bD .add (.int k a) (.int k b)=some (.int k (k.wrap (a+b))):=by simp[bD]
theorem Aw (k:IntKind)(a b:Int):bD .sub (.int k a) (.int k b)=some (.int k (k.wrap (a-b))):=by simp[bD]
theorem Ax (k:IntKind)(a b:Int):bD .mul (.int k a) (.int k b)=some (.int k (k.wrap (a*b))):=by simp[bD]
theorem Ay (k:IntKind)(a b:Int):bD .quo (.int k a) (.int k b)=if b=0 then none else some (.int k (k.wrap (a.tdiv b))):=by simp[bD]
theorem Az (k:IntKind)(a b:Int):bD .rem (.int k a) (.int k b)=if b=0 then none else some (.int k (a.tmod b)):=by simp[bD]
theorem AA (k k':IntKind)(a b:Int):bD .shl (.int k a) (.int k' b)=if b<0 then none else some (.int k (k.wrap (a*2^(min b.toNat k.bits)))):=by simp[bD]
theorem AB (k k':IntKind)(a b:Int):bD .shr (.int k a) (.int k' b)=if b<0 then none else some (.int k (a.fdiv (2^(min b.toNat k.bits)))):=by simp[bD]
theorem AD (k:IntKind)(a b:Int):bD .and (.int k a) (.int k b)=some (.int k (k.wrap (BitVec.ofInt k.bits a &&& BitVec.ofInt k.bits b).toNat)):=by simp[bD]
theorem Gk (k:IntKind)(a b:Int):bD .or (.int k a) (.int k b)=some (.int k (k.wrap (BitVec.ofInt k.bits a ||| BitVec.ofInt k.bits b).toNat)):=by simp[bD]
theorem AE (k:IntKind)(a b:Int):bD .xor (.int k a) (.int k b)=some (.int k (k.wrap (BitVec.ofInt k.bits a ^^^ BitVec.ofInt k.bits b).toNat)):=by simp[bD]
theorem AF (k:IntKind)(a b:Int):bD .eql (.int k a) (.int k b)=some (.bool (a==b)):=by simp[bD]
theorem AG (k:IntKind)(a b:Int):bD .neq (.int k a) (.int k b)=some (.bool (a != b)):=by simp[bD]
theorem AH (k:IntKind)(a b:Int):bD .lss (.int k a) (.int k b)=some (.bool (a<b)):=by simp[bD]
theorem AI (k:IntKind)(a b:Int):bD .leq (.int k a) (.int k b)=some (.bool (a≤b)):=by simp[bD]
theorem AJ (k:IntKind)(a b:Int):bD .gtr (.int k a) (.int k b)=some (.bool (b<a)):=by simp[bD]
theorem AK (k:IntKind)(a b:Int):bD .geq (.int k a) (.int k b)=some (.bool (b≤a)):=by simp[bD]
theorem AL (a b:ByteArray):bD .eql (.str a) (.str b)=some (.bool (decide (a=b))):=by simp[bD,eP]
theorem AM (a b:ByteArray):bD .neq (.str a) (.str b)=some (.bool (!decide (a=b))):=by simp[bD,eP]
theorem AN (a b:ByteArray):bD .lss (.str a) (.str b)=some (.bool (strLt a b)):=by rfl
theorem AO (a b:ByteArray):bD .leq (.str a) (.str b)=some (.bool (!strLt b a)):=by have:=not_le b a;simp only[bD,Option.some.injEq,T.bool.injEq];rw[←this];simp
theorem AP (a b:ByteArray):bD .gtr (.str a) (.str b)=some (.bool (strLt b a)):=by have:=not_le b a;simp only[bD,Option.some.injEq,T.bool.injEq];exact this
theorem AQ (a b:ByteArray):bD .geq (.str a) (.str b)=some (.bool (!strLt a b)):=by rfl
theorem AR (a b:ByteArray):bD .add (.str a) (.str b)=if a.size+b.size≤9223372036854775807 then some (.str (a++b))else none:=rfl
theorem AS (a b:Nat):decide ((a:Int)<(no_index (OfNat.ofNat b)))=decide (a<OfNat.ofNat b):=NM a b
theorem AU (a b:Nat):decide ((no_index (OfNat.ofNat b):Int)<(a:Int))=decide (OfNat.ofNat b<a):=NM b a
theorem AV (a b:Nat):decide ((a:Int)≤(no_index (OfNat.ofNat b)))=decide (a≤OfNat.ofNat b):=NN a b
theorem AW (a b:Nat):decide ((no_index (OfNat.ofNat b):Int)≤(a:Int))=decide (OfNat.ofNat b≤a):=NN b a
theorem AX (a b:Nat):((a:Int)==(no_index (OfNat.ofNat b)))=decide (a=OfNat.ofNat b):=NO a b
theorem AY (a b:Nat):((a:Int) != (no_index (OfNat.ofNat b)))=!decide (a=OfNat.ofNat b):=NP a b
set_option linter.defProp false in
theorem S1:type_of% (And.intro (@Ku)<|And.intro (@av.eq_37)<|And.intro (@av.eq_38)<|And.intro (@av.eq_43)<|And.intro (@av.eq_44)<|And.intro (@av.eq_45)<|And.intro (@Kx)<|And.intro (@Ky)<|And.intro (@Kz)<|And.intro (@fe.eq_1)<|And.intro (@fe.eq_2)<|And.intro (@Ar)<|And.intro (@As)<|And.intro (@Gh)<|And.intro (@Gi)<|And.intro (@Gj)<|And.intro (@zL)<|And.intro (@List.nil_append.{0})<|And.intro (@List.append_nil.{0})<|And.intro (@List.cons_append.{0})<|And.intro (@Ao)<|And.intro (@Ap)<|And.intro (@v9)<|And.intro (@Gf)<|And.intro (@Aq)<|And.intro (@uN)<|And.intro (@we)<|And.intro (@wg)<|And.intro (@Gg)<|And.intro (@dI.eq_1)<|And.intro (@dI.eq_2)<|And.intro (@jV.eq_1)<|And.intro (@jV.eq_2)<|And.intro (@gN.eq_1)<|And.intro (@gN.eq_2)<|And.intro (@gO.eq_1)<|And.intro (@gO.eq_2)<|And.intro (@List.replicate_zero.{0})<|And.intro (@List.replicate_succ.{0})<|And.intro (@List.set_cons_zero.{0})<|And.intro (@List.set_cons_succ.{0})<|And.intro (@List.all_cons.{0})<|And.intro (@List.all_nil.{0})<|And.intro (@Bool.and_true)<|And.intro (@Bool.true_and)<|And.intro (@dP)<|And.intro (@v5)<|And.intro (@mD)<|And.intro (@v7)<|And.intro (@kJ)<|And.intro (@v8)<|And.intro (@AS)<|And.intro (@AU)<|And.intro (@AV)<|And.intro (@AW)<|And.intro (@AX)<|And.intro (@AY)<|And.intro (@FY)<|And.intro (@Sg)<|And.intro (@Si)<|And.intro (@Sj)<|And.intro (@Kt)<|And.intro (@zM)<|And.intro (@FZ)<|And.intro (@F0)<|And.intro (@zN)<|And.intro (@zO)<|And.intro (@zP)<|And.intro (@F1)<|And.intro (@vU)<|And.intro (@dZ)<|And.intro (@zQ)<|And.intro (@nu)<|And.intro (@zR)<|And.intro (@F2)<|And.intro (@zS)<|And.intro (@vV)<|And.intro (@bW)<|And.intro (@zT)<|And.intro (@zU)<|And.intro (@cM)<|And.intro (@zV)<|And.intro (@zW)<|And.intro (@F3)<|And.intro (@F4)<|And.intro (@F5)<|And.intro (@Bool.false_eq_true)<|And.intro (@zX)<|And.intro (@zY)<|And.intro (@F6)<|And.intro (@F9)<|And.intro (@F7)<|And.intro (@F8)<|And.intro (@sU)<|And.intro (@pY)<|And.intro (@List.length_cons.{0})<|And.intro (@List.length_nil.{0})<|And.intro (@List.drop_succ_cons.{0})<|And.intro (@List.drop_zero.{0})<|And.intro (@List.take_succ_cons.{0})<|And.intro (@List.take_zero.{0})<|And.intro (@p9)<|And.intro (@qa)<|And.intro (@qb)<|And.intro (@oB)<|And.intro (@te)<|And.intro (@qc)<|And.intro (@qd)<|And.intro (@qe)<|And.intro (@oC)<|And.intro (@oD)<|And.intro (@fH.eq_1)<|And.intro (@fH.eq_2)<|And.intro (@Nat.zero_add)<|And.intro (@Kq)<|And.intro (@Kr)<|And.intro (@rM.eq_1)<|And.intro (@rM.eq_2)<|And.intro (@zF)<|And.intro (@zG)<|And.intro (@zH)<|And.intro (@vT)<|And.intro (@vX)<|And.intro (@vY)<|And.intro (@vZ)<|And.intro (@v3)<|And.intro (@true_and)<|And.intro (@and_true)<|And.intro (@Option.map_some.{0,0})<|And.intro (@Option.bind_some.{0,0})<|And.intro (@Au)<|And.intro (@gb.eq_1)<|And.intro (@gb.eq_2)<|And.intro (@gb.eq_3)<|And.intro (@gb.eq_4)<|And.intro (@gb.eq_5)<|And.intro (@aa)<|And.intro (@Kv)<|And.intro (@Kw)<|And.intro (@uI.eq_1)<|And.intro (@uI.eq_2)<|And.intro (@kX.eq_1)<|And.intro (@o5.eq_1)<|And.intro (@o5.eq_2)<|And.intro (@uc.eq_1)<|And.intro (@uc.eq_2)<|And.intro (@KC)<|And.intro (@KD)<|And.intro (@KE)<|And.intro (@NM)<|And.intro (@NN)<|And.intro (@NO)<|And.intro (@NP)<|And.intro (@List.map_cons.{0,0})<|And.intro (@List.map_nil.{0,0})<|And.intro (@decide_true)<|And.intro (@decide_false)<|And.intro (@eP)<|And.intro (@Bool.not_true)<|And.intro (@Bool.not_false)<|And.intro (@beq_self_eq_true.{0})<|And.intro (@bne_self_eq_false.{0})<|And.intro (@List.getElem?_cons_zero.{0})<|And.intro (@List.getElem?_cons_succ.{0})<|And.intro (@List.getElem?_nil.{0})<|And.intro (@List.length_map.{0,0})<|And.intro (@vW)<|And.intro (@T.bool.injEq)<|And.intro (@T.int.injEq)<|And.intro (@T.str.injEq)<|And.intro (@T.bC.injEq)<|And.intro (@av.eq_1)<|And.intro (@av.eq_2)<|And.intro (@av.eq_3)<|And.intro (@av.eq_4)<|And.intro (@av.eq_5)<|And.intro (@av.eq_6)<|And.intro (@av.eq_7)<|And.intro (@av.eq_8)<|And.intro (@av.eq_9)<|And.intro (@av.eq_10)<|And.intro (@av.eq_11)<|And.intro (@av.eq_12)<|And.intro (@av.eq_13)<|And.intro (@av.eq_14)<|And.intro (@av.eq_15)<|And.intro (@av.eq_16)<|And.intro (@av.eq_17)<|And.intro (@av.eq_18)<|And.intro (@av.eq_19)<|And.intro (@av.eq_20)<|And.intro (@av.eq_21)<|And.intro (@av.eq_22)<|And.intro (@av.eq_23)<|And.intro (@av.eq_24)<|And.intro (@av.eq_25)<|And.intro (@av.eq_26)<|And.intro (@z9)<|And.intro (@sZ)<|And.intro (@Aa)<|And.intro (@s7)<|And.intro (@Ab)<|And.intro (@Ac)<|And.intro (@Ad)<|And.intro (@s8)<|And.intro (@Ae)<|And.intro (@Af)<|And.intro (@Ag)<|And.intro (@oA)<|And.intro (@av.eq_30)<|And.intro (@av.eq_31)<|And.intro (@av.eq_32)<|And.intro (@av.eq_33)<|And.intro (@av.eq_34)<|And.intro (@av.eq_35)<|And.intro (@av.eq_36)<|And.intro (@z5)<|And.intro (@z7)<|And.intro (@sY)<|And.intro (@Ai)<|And.intro (@Aj)<|And.intro (@s9)<|And.intro (@Al)<|And.intro (@Am)<|And.intro (@ta)<|And.intro (@td)<|And.intro (@pZ)<|And.intro (@p0)<|And.intro (@Av)<|And.intro (@Aw)<|And.intro (@Ax)<|And.intro (@Ay)<|And.intro (@Az)<|And.intro (@AA)<|And.intro (@AB)<|And.intro (@AD)<|And.intro (@Gk)<|And.intro (@AE)<|And.intro (@AF)<|And.intro (@AG)<|And.intro (@AH)<|And.intro (@AI)<|And.intro (@AJ)<|And.intro (@AK)<|And.intro (@AL)<|And.intro (@AM)<|And.intro (@AN)<|And.intro (@AO)<|And.intro (@AP)<|And.intro (@AQ)<|(@AR)):=And.intro (@Ku)<|And.intro (@av.eq_37)<|And.intro (@av.eq_38)<|And.intro (@av.eq_43)<|And.intro (@av.eq_44)<|And.intro (@av.eq_45)<|And.intro (@Kx)<|And.intro (@Ky)<|And.intro (@Kz)<|And.intro (@fe.eq_1)<|And.intro (@fe.eq_2)<|And.intro (@Ar)<|And.intro (@As)<|And.intro (@Gh)<|And.intro (@Gi)<|And.intro (@Gj)<|And.intro (@zL)<|And.intro (@List.nil_append.{0})<|And.intro (@List.append_nil.{0})<|And.intro (@List.cons_append.{0})<|And.intro (@Ao)<|And.intro (@Ap)<|And.intro (@v9)<|And.intro (@Gf)<|And.intro (@Aq)<|And.intro (@uN)<|And.intro (@we)<|And.intro (@wg)<|And.intro (@Gg)<|And.intro (@dI.eq_1)<|And.intro (@dI.eq_2)<|And.intro (@jV.eq_1)<|And.intro (@jV.eq_2)<|And.intro (@gN.eq_1)<|And.intro (@gN.eq_2)<|And.intro (@gO.eq_1)<|And.intro (@gO.eq_2)<|And.intro (@List.replicate_zero.{0})<|And.intro (@List.replicate_succ.{0})<|And.intro (@List.set_cons_zero.{0})<|And.intro (@List.set_cons_succ.{0})<|And.intro (@List.all_cons.{0})<|And.intro (@List.all_nil.{0})<|And.intro (@Bool.and_true)<|And.intro (@Bool.true_and)<|And.intro (@dP)<|And.intro (@v5)<|And.intro (@mD)<|And.intro (@v7)<|And.intro (@kJ)<|And.intro (@v8)<|And.intro (@AS)<|And.intro (@AU)<|And.intro (@AV)<|And.intro (@AW)<|And.intro (@AX)<|And.intro (@AY)<|And.intro (@FY)<|And.intro (@Sg)<|And.intro (@Si)<|And.intro (@Sj)<|And.intro (@Kt)<|And.intro (@zM)<|And.intro (@FZ)<|And.intro (@F0)<|And.intro (@zN)<|And.intro (@zO)<|And.intro (@zP)<|And.intro (@F1)<|And.intro (@vU)<|And.intro (@dZ)<|And.intro (@zQ)<|And.intro (@nu)<|And.intro (@zR)<|And.intro (@F2)<|And.intro (@zS)<|And.intro (@vV)<|And.intro (@bW)<|And.intro (@zT)<|And.intro (@zU)<|And.intro (@cM)<|And.intro (@zV)<|And.intro (@zW)<|And.intro (@F3)<|And.intro (@F4)<|And.intro (@F5)<|And.intro (@Bool.false_eq_true)<|And.intro (@zX)<|And.intro (@zY)<|And.intro (@F6)<|And.intro (@F9)<|And.intro (@F7)<|And.intro (@F8)<|And.intro (@sU)<|And.intro (@pY)<|And.intro (@List.length_cons.{0})<|And.intro (@List.length_nil.{0})<|And.intro (@List.drop_succ_cons.{0})<|And.intro (@List.drop_zero.{0})<|And.intro (@List.take_succ_cons.{0})<|And.intro (@List.take_zero.{0})<|And.intro (@p9)<|And.intro (@qa)<|And.intro (@qb)<|And.intro (@oB)<|And.intro (@te)<|And.intro (@qc)<|And.intro (@qd)<|And.intro (@qe)<|And.intro (@oC)<|And.intro (@oD)<|And.intro (@fH.eq_1)<|And.intro (@fH.eq_2)<|And.intro (@Nat.zero_add)<|And.intro (@Kq)<|And.intro (@Kr)<|And.intro (@rM.eq_1)<|And.intro (@rM.eq_2)<|And.intro (@zF)<|And.intro (@zG)<|And.intro (@zH)<|And.intro (@vT)<|And.intro (@vX)<|And.intro (@vY)<|And.intro (@vZ)<|And.intro (@v3)<|And.intro (@true_and)<|And.intro (@and_true)<|And.intro (@Option.map_some.{0,0})<|And.intro (@Option.bind_some.{0,0})<|And.intro (@Au)<|And.intro (@gb.eq_1)<|And.intro (@gb.eq_2)<|And.intro (@gb.eq_3)<|And.intro (@gb.eq_4)<|And.intro (@gb.eq_5)<|And.intro (@aa)<|And.intro (@Kv)<|And.intro (@Kw)<|And.intro (@uI.eq_1)<|And.intro (@uI.eq_2)<|And.intro (@kX.eq_1)<|And.intro (@o5.eq_1)<|And.intro (@o5.eq_2)<|And.intro (@uc.eq_1)<|And.intro (@uc.eq_2)<|And.intro (@KC)<|And.intro (@KD)<|And.intro (@KE)<|And.intro (@NM)<|And.intro (@NN)<|And.intro (@NO)<|And.intro (@NP)<|And.intro (@List.map_cons.{0,0})<|And.intro (@List.map_nil.{0,0})<|And.intro (@decide_true)<|And.intro (@decide_false)<|And.intro (@eP)<|And.intro (@Bool.not_true)<|And.intro (@Bool.not_false)<|And.intro (@beq_self_eq_true.{0})<|And.intro (@bne_self_eq_false.{0})<|And.intro (@List.getElem?_cons_zero.{0})<|And.intro (@List.getElem?_cons_succ.{0})<|And.intro (@List.getElem?_nil.{0})<|And.intro (@List.length_map.{0,0})<|And.intro (@vW)<|And.intro (@T.bool.injEq)<|And.intro (@T.int.injEq)<|And.intro (@T.str.injEq)<|And.intro (@T.bC.injEq)<|And.intro (@av.eq_1)<|And.intro (@av.eq_2)<|And.intro (@av.eq_3)<|And.intro (@av.eq_4)<|And.intro (@av.eq_5)<|And.intro (@av.eq_6)<|And.intro (@av.eq_7)<|And.intro (@av.eq_8)<|And.intro (@av.eq_9)<|And.intro (@av.eq_10)<|And.intro (@av.eq_11)<|And.intro (@av.eq_12)<|And.intro (@av.eq_13)<|And.intro (@av.eq_14)<|And.intro (@av.eq_15)<|And.intro (@av.eq_16)<|And.intro (@av.eq_17)<|And.intro (@av.eq_18)<|And.intro (@av.eq_19)<|And.intro (@av.eq_20)<|And.intro (@av.eq_21)<|And.intro (@av.eq_22)<|And.intro (@av.eq_23)<|And.intro (@av.eq_24)<|And.intro (@av.eq_25)<|And.intro (@av.eq_26)<|And.intro (@z9)<|And.intro (@sZ)<|And.intro (@Aa)<|And.intro (@s7)<|And.intro (@Ab)<|And.intro (@Ac)<|And.intro (@Ad)<|And.intro (@s8)<|And.intro (@Ae)<|And.intro (@Af)<|And.intro (@Ag)<|And.intro (@oA)<|And.intro (@av.eq_30)<|And.intro (@av.eq_31)<|And.intro (@av.eq_32)<|And.intro (@av.eq_33)<|And.intro (@av.eq_34)<|And.intro (@av.eq_35)<|And.intro (@av.eq_36)<|And.intro (@z5)<|And.intro (@z7)<|And.intro (@sY)<|And.intro (@Ai)<|And.intro (@Aj)<|And.intro (@s9)<|And.intro (@Al)<|And.intro (@Am)<|And.intro (@ta)<|And.intro (@td)<|And.intro (@pZ)<|And.intro (@p0)<|And.intro (@Av)<|And.intro (@Aw)<|And.intro (@Ax)<|And.intro (@Ay)<|And.intro (@Az)<|And.intro (@AA)<|And.intro (@AB)<|And.intro (@AD)<|And.intro (@Gk)<|And.intro (@AE)<|And.intro (@AF)<|And.intro (@AG)<|And.intro (@AH)<|And.intro (@AI)<|And.intro (@AJ)<|And.intro (@AK)<|And.intro (@AL)<|And.intro (@AM)<|And.intro (@AN)<|And.intro (@AO)<|And.intro (@AP)<|And.intro (@AQ)<|(@AR)
theorem S2:type_of% (And.intro (@not_false_eq_true)<|And.intro (@ne_eq.{1})<|And.intro (@Nat.lt_succ_self)<|And.intro (@bT)<|And.intro (@gW)<|And.intro (@gh)<|And.intro (@jS)<|And.intro (@z2)<|And.intro (@Ga)<|And.intro (@Gb)<|And.intro (@Gc)<|And.intro (@Ge)<|And.intro (@List.nil_append.{0})<|And.intro (@List.append_nil.{0})<|And.intro (@List.cons_append.{0}) (@List.drop_nil.{0})):=And.intro (@not_false_eq_true)<|And.intro (@ne_eq.{1})<|And.intro (@Nat.lt_succ_self)<|And.intro (@bT)<|And.intro (@gW)<|And.intro (@gh)<|And.intro (@jS)<|And.intro (@z2)<|And.intro (@Ga)<|And.intro (@Gb)<|And.intro (@Gc)<|And.intro (@Ge)<|And.intro (@List.nil_append.{0})<|And.intro (@List.append_nil.{0})<|And.intro (@List.cons_append.{0}) (@List.drop_nil.{0})
theorem Gl (H:ae)(x:B):(H++[x]).length=H.length+1:=by simp
theorem KF {b n:Nat}(h:b<n):(b<n+1)=True:=by simp;omega
theorem S3:type_of% (And.intro (@Gl)<|And.intro (@KF) (@Nat.add_assoc)):=And.intro (@Gl)<|And.intro (@KF) (@Nat.add_assoc)
end Go.Rmp
end
