/- Part of a proof of a law of this seat: the machine of plain values, its simulation, and the contracts of the functions that the law reaches. Conditions: none beyond the given row. -/
import Derived.Test.YtdcpehdijdllpaaGreatM0
import Derived.RangeFuncRecord
import Derived.RangeFuncIn
import Derived.OpenShut
import Derived.RowKit3
import Derived.ChangeSame
import Derived.ReadAgain
import Derived.ChangeCalls
import Derived.Deep.Frames
import Derived.Laws.Strings
open Int renaming reduceLT → q6, reduceLE → q7, reduceBEq → q8, reduceBNe → q9, reduceEq → y1
open Nat renaming reduceAdd → y2, reduceLeDiff → y3, reduceLT → y4, reduceEqDiff → y5
set_option linter.unusedSimpArgs false
set_option linter.unusedVariables false
set_option linter.unnecessarySimpa false
set_option maxHeartbeats 4000000
section
namespace Go.Rmp
section
variable {P:Program} {w0 w:World} {g:Ctx} {H H':af} {R:av} {ρ:Operand→Value} {t:T}
theorem fS {ty:TypeId}{z:List T}(h:zeroOf P ty=some z):∃i zv,P.info? ty=some i∧i.zero=some zv∧ff zv.cells.toList=some z:=by
 unfold zeroOf at h
 cases h1:P.info? ty with
 | none=>simp[h1]at h
 | some i =>
  simp only[h1]at h
  cases h2:i.zero with
  | none=>simp[h2]at h
  | some zv=>simp only[h2]at h;exact⟨i,zv,rfl,h2,h⟩
theorem yE {iT:List TypeId}{rt:TypeId}{mu:Bool}{as:List X}{vs:List Value}{b:Bo}(hc:lU P mu iT as=some b)(h:SR w0 g H w)(hv:bF g w (as.map (X.ev R)) vs)(he:ar R H b=some (t,H')) :
  b8 P w0 g H w (Builtin.append_ iT.toArray rt vs.toArray) t H':=by
 unfold lU at hc
 split at hc
 ·rename_i sT xT x y
  cases vs with
  | nil=>have:=hv.1;simp at this
  | cons vx vs =>
   cases vs with
   | nil=>have:=hv.1;simp at this
   | cons vy vs =>
    cases vs with
    | cons _ _=>have:=hv.1;simp at this
    | nil =>
     have hx:VR g w (x.ev R) vx:=hv.head
     have hy:VR g w (y.ev R) vy:=hv.tail.head
     cases hs:P.underlying sT with
     | none=>simp[hs]at hc
     | some ds =>
      cases Jc:P.underlying xT with
      | none=>cases ds<;>simp[hs,Jc]at hc
      | some dx =>
       cases ds<;>simp only[hs,Jc]at hc<;>(try (cases hc;done))
       rename_i e
       cases hi:P.info? e with
       | none=>simp[hi]at hc
       | some ei =>
        simp only[hi]at hc
        cases hz:ei.zero with
        | none=>simp[hz]at hc
        | some zv =>
         simp only[hz]at hc
         split at hc
         ·rename_i cF
          simp only[Bool.and_eq_true,beq_iff_eq,bne_iff_ne]at cF
          simp at hc;subst hc
          have E:oU P sT xT e ei zv ei.size ei.bytes:=⟨hs,hi,⟨dx,Jc,fun k e=>by subst e;simp[DK]at cF⟩,rfl,hz,cF.1.2,rfl,cF.2⟩
          simp only[ar]at he
          cases sI:bA H ei.size (y.ev R)with
          | none=>simp[sI]at he
          | some new =>
           simp only[sI]at he
           cases mu with
           | true =>
            simp only[if_true]at he
            exact DC E h hx.uF hy sI he
           | false =>
            simp only[Bool.false_eq_true,if_false]at he
            generalize x.ev R=tx at hx he
            cases tx<;>(try simp only[reduceCtorEq]at he)
            split at he
            ·rename_i cJ
             exact I2 E h hx hy cJ sI he
            ·cases he
         ·cases hc
 ·cases hc
theorem Jo {iT:List TypeId}{rt:TypeId}{as:List X}{vs:List Value}{b:Bo}(hc:wQ P iT as=some b)(h:SR w0 g H w)(hv:bF g w (as.map (X.ev R)) vs)(he:ar R H b=some (t,H')) :
  b8 P w0 g H w (Builtin.append_ iT.toArray rt vs.toArray) t H':=by
 unfold wQ at hc
 split at hc
 ·rename_i sT xT x k
  cases vs with
  | nil=>have:=hv.1;simp at this
  | cons vx vs =>
   cases vs with
   | nil=>have:=hv.1;simp at this
   | cons vk vs =>
    cases vs with
    | cons _ _=>have:=hv.1;simp at this
    | nil =>
     have hx:VR g w (x.ev R) vx:=hv.head
     have hk:VR g w (k.ev R) vk:=hv.tail.head
     cases hs:P.underlying sT with
     | none=>simp[hs]at hc
     | some ds =>
      cases Jc:P.underlying xT with
      | none=>cases ds<;>simp[hs,Jc]at hc
      | some dx =>
       cases ds<;>cases dx<;>simp only[hs,Jc]at hc<;>(try (cases hc;done))
       rename_i e kn
       cases hi:P.info? e with
       | none=>simp[hi]at hc
       | some ei =>
        cases hz:zeroOf P e with
        | none=>simp[hi,hz]at hc
        | some z =>
         simp only[hi,hz]at hc
         split at hc
         ·rename_i cF
          simp only[bne_iff_ne,ne_eq]at cF
          simp only[Option.some.injEq]at hc;subst hc
          obtain⟨i,zv,h1,h2,h3⟩:=fS hz
          rw[hi]at h1;cases h1
          simp only[ar,Option.bind_eq_some_iff]at he
          obtain⟨kk,bL,he⟩:=he
          generalize k.ev R=tk at hk bL
          cases hk<;>simp only[cq]at bL<;>(try (cases bL;done))
          rename_i kq m
          split at bL
          ·rename_i hm
           simp only[Option.some.injEq]at bL
           subst bL
           have:=Jb (rt:=rt) (kq:=kq) hs Jc hi h2 h3 cF h hx he
           rw[Int.toNat_of_nonneg hm]at this
           exact this
          ·cases bL
         ·cases hc
 ·cases hc
theorem Jp {f:FuncId}{n:Nat}{x y:X}{args:Array Operand}{ρ:Operand→Value}(vY:zT P f=some n)(h:SR w0 g H w)(iI:bF g w ([x,y].map (X.ev R)) (args.toList.map ρ))(he:Bj H n (x.ev R) (y.ev R)=some (t,H')) :
  Jl P w0 g H w (callFunc f (args.map ρ)) t H':=by
 unfold zT at vY
 cases hf:P.funcs[f]? with
 | none=>simp[hf]at vY
 | some fn =>
  simp only[hf]at vY
  cases hp:fn.params[0]? with
  | none=>simp[hp]at vY
  | some tS =>
   simp only[hp]at vY
   cases ht:P.underlying tS with
   | none=>simp[ht]at vY
   | some d =>
    cases d<;>simp only[ht]at vY<;>(try (cases vY;done))
    rename_i e
    cases hi:P.info? e with
    | none=>simp[hi]at vY
    | some ei =>
     simp only[hi]at vY
     split at vY
     ·rename_i hc
      simp only[Option.some.injEq]at vY;subst vY
      simp only[Bool.and_eq_true,Ly,Option.isNone_iff_eq_none,beq_iff_eq,bne_iff_ne,ne_eq]at hc
      obtain⟨⟨⟨⟨c1,c2⟩,c3⟩,c4⟩,⟨c5,c6⟩,c7⟩:=hc
      have Rv:Extern.find fn=some (Extern.SlicesOverlaps.overlaps fn.params fn.resultTypes):=by
       have r1:Extern.allGenericRows.lookup "slices.overlaps"=none:=by kernel_rfl
       have r2:Extern.allTypedRows.lookup "slices.overlaps"=some Extern.SlicesOverlaps.overlaps:=by kernel_rfl
       unfold Extern.find
       simp only[c4,c5,c6,c7,r1,r2,Option.map_none,Option.map_some]
       rfl
      cases ha:args.toList.map ρ with
      | nil=>rw[ha]at iI;have:=iI.1;simp at this
      | cons vx vs =>
       cases vs with
       | nil=>rw[ha]at iI;have:=iI.1;simp at this
       | cons vy vs =>
        cases vs with
        | cons _ _=>rw[ha]at iI;have:=iI.1;simp at this
        | nil =>
         rw[ha]at iI
         have hx:VR g w (x.ev R) vx:=iI.head
         have hy:VR g w (y.ev R) vy:=iI.tail.head
         have nO:args.map ρ=#[vx,vy]:=by apply Array.ext';simp[ha]
         obtain⟨v,w',g',h1,h2,h3,h4,h5⟩:=Jd (results:=fn.resultTypes) hp ht hi h hx hy he
         refine⟨.value v,v,w',g',?_,.inl rfl,h2,h3,h4,h5⟩
         rw[nO,run_callFunc_extern hf (by simpa using c1) (by simp[c2]) c3 Rv,h1]
         rfl
     ·cases vY
theorem wT {bi:Builtin}{iT:List TypeId}{rt:TypeId}{cs:Array Bool}{mu:Bool}{as:List X}{vs:List Value}{b:Bo}(hc:jE P mu bi iT as=some b)(h:SR w0 g H w)(hv:bF g w (as.map (X.ev R)) vs)(he:ar R H b=some (t,H')) :
  Jl P w0 g H w (builtin bi iT.toArray rt cs vs.toArray) t H':=by
 have two:∀(x y:X),as=[x,y]→∃vx vy,vs=[vx,vy]∧VR g w (x.ev R) vx∧VR g w (y.ev R) vy:=by
  rintro x y rfl
  cases vs with
  | nil=>have:=hv.1;simp at this
  | cons vx vs =>
   cases vs with
   | nil=>have:=hv.1;simp at this
   | cons vy vs =>
    cases vs with
    | cons _ _=>have:=hv.1;simp at this
    | nil=>exact⟨vx,vy,rfl,hv.head,hv.tail.head⟩
 unfold jE at hc
 split at hc
 ·cases hz:wQ P iT as with
  | some b'=>rw[hz]at hc;simp only[Option.some.injEq]at hc;subst hc;exact(Jo hz h hv he).ny
  | none=>rw[hz]at hc;exact(yE hc h hv he).ny
 ·-- cap
  rename_i ty x
  cases vs with
  | nil=>have:=hv.1;simp at this
  | cons vx vs =>
   cases vs with
   | cons _ _=>have:=hv.1;simp at this
   | nil =>
    have hx:VR g w (x.ev R) vx:=hv.head
    cases hu:P.underlying ty with
    | none=>simp[hu]at hc
    | some d =>
     cases d<;>simp only[hu]at hc<;>(try (cases hc;done))
     simp only[Option.some.injEq]at hc;subst hc
     simp only[ar]at he
     generalize x.ev R=tx at hx he
     cases tx<;>simp only[reduceCtorEq,Option.some.injEq,Prod.mk.injEq]at he
     obtain⟨rfl,rfl⟩:=he
     exact(I7 hu h hx).ny
 ·-- copy
  rename_i dT sT x y
  obtain⟨vx,vy,rfl,hx,hy⟩:=two x y rfl
  cases hu:P.underlying dT with
  | none=>simp[hu]at hc
  | some d =>
   cases d<;>simp only[hu]at hc<;>(try (cases hc;done))
   rename_i e
   cases hi:P.info? e with
   | none=>simp[hi]at hc
   | some ei =>
    simp only[hi,Option.map_some,Option.some.injEq]at hc;subst hc
    simp only[ar]at he
    exact(I8 hu hi h hx hy he).ny
 ·-- len
  rename_i ty x
  cases vs with
  | nil=>have:=hv.1;simp at this
  | cons vx vs =>
   cases vs with
   | cons _ _=>have:=hv.1;simp at this
   | nil =>
    have hx:VR g w (x.ev R) vx:=hv.head
    cases hu:P.underlying ty with
    | none=>simp[hu]at hc
    | some d =>
     have hl:∃k,WY k d=true∧b=.len k x:=by
      cases d<;>simp[hu]at hc
      ·exact⟨.str,rfl,hc.symm⟩
      ·exact⟨.sl,rfl,hc.symm⟩
      ·exact⟨.map,rfl,hc.symm⟩
     obtain⟨k,hk,rfl⟩:=hl
     simp only[ar,Option.map_eq_some_iff,Prod.mk.injEq]at he
     obtain⟨n,h1,rfl,rfl⟩:=he
     exact(IG hu hk h hx h1).ny
 ·-- clear
  rename_i ty x
  cases vs with
  | nil=>have:=hv.1;simp at this
  | cons vx vs =>
   cases vs with
   | cons _ _=>have:=hv.1;simp at this
   | nil =>
    have hx:VR g w (x.ev R) vx:=hv.head
    cases hu:P.underlying ty with
    | none=>simp[hu]at hc
    | some d =>
     cases d<;>simp only[hu]at hc<;>(try (cases hc;done))
     rename_i e
     cases hi:P.info? e with
     | none=>simp[hi]at hc
     | some ei =>
      cases hz:zeroOf P e with
      | none=>simp[hi,hz]at hc
      | some z =>
       simp only[hi,hz,Option.some.injEq]at hc;subst hc
       obtain⟨i,zv,k1,k2,k3⟩:=fS hz
       rw[hi]at k1;cases k1
       simp only[ar]at he
       generalize x.ev R=tx at hx he
       cases tx<;>(try (simp only[reduceCtorEq]at he;done))
       rename_i bb off len n'
       simp only at he
       cases hb:H[bb]? with
       | none=>simp[hb]at he
       | some y =>
        cases y<;>simp only[hb]at he<;>(try (cases he;done))
        rename_i cs'
        split at he
        ·rename_i uR
         obtain⟨rfl,wO,hle⟩:=uR
         simp only[Option.some.injEq,Prod.mk.injEq]at he
         obtain⟨rfl,rfl⟩:=he
         exact(Jk hu hi k2 k3 h hx hb wO hle).ny
        ·cases he
 ·rename_i x y
  obtain⟨vx,vy,rfl,hx,hy⟩:=two x y rfl
  simp at hc;subst hc
  simp only[ar]at he
  generalize x.ev R=tx at hx he
  generalize y.ev R=Nh at hy he
  cases tx<;>cases Nh<;>simp only[reduceCtorEq,Option.some.injEq,Prod.mk.injEq]at he
  obtain⟨rfl,rfl⟩:=he
  exact(MV h hx hy).ny
 ·rename_i x y
  obtain⟨vx,vy,rfl,hx,hy⟩:=two x y rfl
  simp at hc;subst hc
  simp only[ar]at he
  generalize x.ev R=tx at hx he
  generalize y.ev R=Nh at hy he
  cases tx<;>cases Nh<;>simp only[reduceCtorEq,Option.some.injEq,Prod.mk.injEq]at he
  obtain⟨rfl,rfl⟩:=he
  exact(MW h hx hy).ny
 ·-- delete
  rename_i ty xt m k
  obtain⟨vm,vk,rfl,hm,hk⟩:=two m k rfl
  cases hu:P.underlying ty with
  | none=>simp[hu]at hc
  | some d =>
   cases d<;>simp only[hu]at hc<;>(try (cases hc;done))
   rename_i key elem
   cases jT:uT P key with
   | none=>simp[jT]at hc
   | some kt =>
    simp only[jT]at hc
    split at hc
    ·rename_i qj
     simp at hc;subst hc
     simp only[ar]at he
     generalize m.ev R=tm at hm he
     cases tm<;>(try simp only[reduceCtorEq]at he)
     rename_i bb
     split at he
     ·rename_i yw
      cases hb:H[bb]? with
      | none=>simp[hb]at he
      | some z =>
       cases z<;>simp only[hb]at he<;>(try (cases he;done))
       rename_i es
       cases hr:dp (k.ev R) es with
       | none=>simp[hr]at he
       | some r =>
        have:=IY (rt:=rt) (xt:=xt) hu qj h hm hk yw hb hr
        cases r with
        | none=>simp only[hr,Option.some.injEq,Prod.mk.injEq]at he;obtain⟨rfl,rfl⟩:=he;exact this.ny
        | some i=>simp only[hr,Option.some.injEq,Prod.mk.injEq]at he;obtain⟨rfl,rfl⟩:=he;exact this.ny
     ·cases he
    ·cases hc
 ·cases hc
theorem zW {ty:TypeId}{m k:X}{e:Nat}{kt:KT}{z:T}(h:yD P ty m k=some (e,kt,z)):∃key ei zv,P.underlying ty=some (.map key e)∧P.info? e=some ei∧ei.zero=some zv∧mW zv=some z∧mX P key kt=true:=by
 unfold yD at h
 cases hu:P.underlying ty with
 | none=>simp[hu]at h
 | some d =>
  cases d<;>simp only[hu]at h<;>(try (cases h;done))
  rename_i key e'
  cases h1:uT P key with
  | none=>simp[h1]at h
  | some kt' =>
   cases h2:P.info? e' with
   | none=>simp[h1,h2]at h
   | some ei =>
    simp only[h1,h2]at h
    cases h3:ei.zero with
    | none=>simp[h3]at h
    | some zv =>
     simp only[h3]at h
     cases h4:mW zv with
     | none=>simp[h4]at h
     | some z' =>
      simp only[h4]at h
      split at h
      ·rename_i qj
       simp at h
       obtain⟨rfl,rfl,rfl⟩:=h
       exact⟨key,ei,zv,rfl,h2,h3,h4,qj⟩
      ·cases h
theorem zX {ty:TypeId}{m k v:X}{vm vk vv:Value}{e:Nat}{kt:KT}{z:T}(hc:yD P ty m k=some (e,kt,z))(h:SR w0 g H w)(hm:VR g w (m.ev R) vm)(hk:VR g w (k.ev R) vk)(hv:VR g w (v.ev R) vv)(he:ar R H (.zD kt m k v)=some (t,H')) :
  Jl P w0 g H w (do Instr.mapUpdate ty vm vk vv;pure Next.skip) t H':=by
 obtain⟨key,ei,zv,hu,hi,hz,qm,qj⟩:=zW hc
 simp only[ar]at he
 generalize m.ev R=tm at hm he
 cases tm<;>(try simp only[reduceCtorEq]at he)
 rename_i bb
 split at he
 ·rename_i yw
  cases hb:H[bb]? with
  | none=>simp[hb]at he
  | some y =>
   cases y<;>simp only[hb]at he<;>(try (cases he;done))
   rename_i es
   cases hr:dp (k.ev R) es with
   | none=>simp[hr]at he
   | some r =>
    obtain⟨w',g',h1,h2,h3,h4⟩:=IX hu qj h hm hk hv yw hb hr
    cases r with
    | none=>simp only[hr,Option.some.injEq,Prod.mk.injEq]at he;obtain⟨rfl,rfl⟩:=he;exact⟨.skip,undef,w',g',by simp[h1],.inr ⟨rfl,rfl⟩,h2,h3,hO,h4⟩
    | some i=>simp only[hr,Option.some.injEq,Prod.mk.injEq]at he;obtain⟨rfl,rfl⟩:=he;exact⟨.skip,undef,w',g',by simp[h1],.inr ⟨rfl,rfl⟩,h2,h3,hO,h4⟩
 ·cases he
theorem Jq {ty:TypeId}{m k:X}{vm vk:Value}{e:Nat}{kt:KT}{z:T}{ok:Bool}(hc:yD P ty m k=some (e,kt,z))(h:SR w0 g H w)(hm:VR g w (m.ev R) vm)(hk:VR g w (k.ev R) vk)(he:ar R H (.nB kt z ok m k)=some (t,H')) :
  b8 P w0 g H w (Instr.lookup ty vm vk ok) t H':=by
 obtain⟨key,ei,zv,hu,hi,hz,qm,qj⟩:=zW hc
 simp only[ar]at he
 split at he
 ·rename_i yw
  cases iE:gE H (m.ev R)with
  | none=>simp[iE]at he
  | some es =>
   simp only[iE]at he
   cases hr:dp (k.ev R) es with
   | none=>simp[hr]at he
   | some r =>
    cases r with
    | none =>
     simp only[hr,Option.some.injEq,Prod.mk.injEq]at he
     obtain⟨rfl,rfl⟩:=he
     exact zM hu hi hz qm qj h hm hk yw iE hr rfl
    | some i =>
     simp only[hr]at he
     cases hx:es[i]? with
     | none=>simp[hx]at he
     | some x =>
      simp only[hx,Option.some.injEq,Prod.mk.injEq]at he
      obtain⟨rfl,rfl⟩:=he
      exact zM hu hi hz qm qj h hm hk yw iE hr (by simp[hx])
 ·cases he
theorem BO {ty:TypeId}{ps:List (Nat×X)}{pv:List (Nat×Value)}{b:Bo}(hc:oZ P ty ps=some b)(h:SR w0 g H w)(hv:PV g w R ps pv)(he:ar R H b=some (t,H')):b8 P w0 g H w (Instr.build ty pv.toArray) t H':=by
 unfold oZ at hc
 cases hu:P.underlying ty with
 | none=>simp[hu]at hc
 | some d =>
  cases hz:zeroOf P ty with
  | none=>cases d<;>simp[hu,hz]at hc
  | some z =>
   cases d<;>simp only[hu,hz]at hc<;>(try (cases hc;done))
   rename_i fs
   split at hc
   ·rename_i cF
    simp only[Bool.and_eq_true]at cF
    simp only[Option.some.injEq]at hc;subst hc
    obtain⟨i,zv,h1,h2,h3⟩:=fS hz
    simp only[ar]at he
    split at he
    ·rename_i l hl
     simp only[Option.map_eq_some_iff,Prod.mk.injEq]at he
     obtain⟨cs,h4,rfl,rfl⟩:=he
     refine BH hu h1 h2 h3 (fun f hf=>?_) (fun p hp=>?_) h hv hl h4
     ·have:=cF.1
      simp only[wR,List.all_eq_true]at this
      exact Option.isSome_iff_exists.1 (this f hf)
     ·have:=cF.2
      simp only[List.all_eq_true,decide_eq_true_eq]at this
      exact this p hp
    ·cases he
   ·cases hc
theorem Jr {ty:TypeId}{n:Nat}{ps:List (Nat×X)}{pv:List (Nat×Value)}{b:Bo}{mu:Bool}(hc:BL P mu ty n ps=some b)(h:SR w0 g H w)(hv:PV g w R ps pv)(he:ar R H b=some (t,H')):b8 P w0 g H w (Instr.buildSlice ty n pv.toArray) t H':=by
 unfold BL at hc
 cases hu:P.underlying ty with
 | none=>simp[hu]at hc
 | some d =>
  cases d<;>simp only[hu]at hc<;>(try (cases hc;done))
  rename_i e
  cases hi:P.info? e with
  | none=>simp[hi]at hc
  | some ei =>
   cases hz:zeroOf P e with
   | none=>simp[hi,hz]at hc
   | some z =>
    simp only[hi,hz]at hc
    split at hc
    ·rename_i cF
     simp only[Bool.and_eq_true,beq_iff_eq,decide_eq_true_eq]at cF
     simp at hc;subst hc
     obtain⟨i,zv,h1,h2,h3⟩:=fS hz
     rw[hi]at h1;cases h1
     cases mu with
     | false =>
      simp only[Bool.false_eq_true,if_false,ar,Option.map_eq_some_iff,Prod.mk.injEq]at he
      obtain⟨fs,h4,rfl,rfl⟩:=he
      exact I4 hu hi h2 h3 cF.1 cF.2 h hv h4
     | true =>
      simp only[if_true,ar,Option.bind_eq_some_iff]at he
      obtain⟨fs,h4,he⟩:=he
      split at he
      ·simp only[Option.some.injEq,Prod.mk.injEq]at he
       obtain⟨rfl,rfl⟩:=he
       exact Ja hu hi h2 h3 cF.1 cF.2 h hv h4
      ·cases he
    ·cases hc
theorem Js {ty:TypeId}{mu:Bool}{l c:X}{vl vc:Value}{b:Bo}(hc:BM P mu ty l c=some b)(h:SR w0 g H w)(hl:VR g w (l.ev R) vl)(sL:VR g w (c.ev R) vc)(he:ar R H b=some (t,H')):b8 P w0 g H w (Instr.makeSlice ty vl vc) t H':=by
 unfold BM at hc
 cases hu:P.underlying ty with
 | none=>simp[hu]at hc
 | some d =>
  cases d<;>simp only[hu]at hc<;>(try (cases hc;done))
  rename_i e
  cases hi:P.info? e with
  | none=>simp[hi]at hc
  | some ei =>
   cases hz:zeroOf P e with
   | none=>simp[hi,hz]at hc
   | some z =>
    simp only[hi,hz]at hc
    split at hc
    ·rename_i cF
     simp only[Bool.and_eq_true,beq_iff_eq,bne_iff_ne]at cF
     simp at hc;subst hc
     obtain⟨i,zv,h1,h2,h3⟩:=fS hz
     rw[hi]at h1;cases h1
     simp only[ar]at he
     cases HR:cq (l.ev R)with
     | none=>simp[HR]at he
     | some nl =>
      cases Qt:cq (c.ev R)with
      | none=>simp[HR,Qt]at he
      | some nc =>
       simp only[HR,Qt]at he
       split at he
       ·rename_i iL
        refine I5 (mu:=mu) hu hi h2 h3 cF.1 cF.2 h hl sL HR Qt iL.1 iL.2.1 iL.2.2 ?_
        cases mu with
        | true=>simpa using he
        | false =>
         simp only[Bool.false_eq_true,if_false]at he ⊢
         split at he
         ·rename_i e0;rw[if_pos e0];simpa using he
         ·rename_i e0;rw[if_neg e0];simpa using he
       ·cases he
    ·cases hc
theorem RV.get {xs:List Operand}(h:RV g w R ρ xs){x:Operand}{y:X}(hx:x∈xs)(hc:aP x=some y):VR g w (y.ev R) (ρ x):=h x hx y hc
theorem Nk {mu:Bool}{o:Oper}{b:Bo}(hρ:∀f:FuncId,ρ (.func f)=.func (.func f) #[] #[])(hc:bG P mu o.op=some b)(h:SR w0 g H w)(hv:RV g w R ρ o.op.operands.toList)(he:ar R H b=some (t,H')):Jl P w0 g H w (execOp ρ o) t H':=by
 obtain⟨dst,op,ty,pos,after,guard⟩:=o
 cases op<;>simp only[bG]at hc<;>(try (cases hc;done))<;>simp only[Op.operands]at hv
 case move x =>
  simp only[Option.map_eq_some_iff]at hc
  obtain⟨y,h1,rfl⟩:=hc
  simp only[ar,Option.some.injEq,Prod.mk.injEq]at he
  obtain⟨rfl,rfl⟩:=he
  exact⟨_,_,w,g,rfl,.inl rfl,.refl _ _,h,hv.get (by simp) h1,.refl _ _⟩
 case assign x =>
  simp only[Option.map_eq_some_iff]at hc
  obtain⟨y,h1,rfl⟩:=hc
  simp only[ar,Option.some.injEq,Prod.mk.injEq]at he
  obtain⟨rfl,rfl⟩:=he
  exact⟨_,_,w,g,rfl,.inl rfl,.refl _ _,h,hv.get (by simp) h1,.refl _ _⟩
 case pick c x y =>
  cases h1:aP c with
  | none=>simp[h1]at hc
  | some c' =>
   cases h2:aP x with
   | none=>simp[h1,h2]at hc
   | some x' =>
    cases h3:aP y with
    | none=>simp[h1,h2,h3]at hc
    | some y' =>
     simp only[h1,h2,h3,Option.some.injEq]at hc
     subst hc
     have vc:=hv.get (by simp) h1
     have vx:=hv.get (by simp) h2
     have vy:=hv.get (by simp) h3
     simp only[ar]at he
     generalize c'.ev R=tc at vc he
     cases tc<;>(try simp only[reduceCtorEq]at he)
     simp only[Option.some.injEq,Prod.mk.injEq]at he
     obtain⟨rfl,rfl⟩:=he
     obtain⟨v,w',g',k1,k2⟩:=Dq (P:=P) h vc vx vy
     refine⟨.value v,v,w',g',?_,.inl rfl,k2⟩
     simp only[execOp,Sem.run_bind,Sem.run_pure]at k1 ⊢
     generalize (asBool (ρ c)).run P w=r at k1 ⊢
     cases r<;>simp_all
 case alloc tq =>
  simp only[Option.map_eq_some_iff]at hc
  obtain⟨z,h1,rfl⟩:=hc
  obtain⟨i,zv,h2,h3,h4⟩:=fS h1
  simp only[ar,Option.some.injEq,Prod.mk.injEq]at he
  obtain⟨rfl,rfl⟩:=he
  exact(BF h2 h3 h4 h).ny
 case box tq x =>
  simp only[Option.map_eq_some_iff]at hc
  obtain⟨y,h1,rfl⟩:=hc
  simp only[ar,Option.map_eq_some_iff,Prod.mk.injEq]at he
  obtain⟨cs,h2,rfl,rfl⟩:=he
  exact(IV h (hv.get (by simp) h1) h2).ny
 case build tq ps =>
  simp only[Option.bind_eq_some_iff]at hc
  obtain⟨qs,h1,h2⟩:=hc
  have hp:=o3 (ρ:=ρ) _ _ h1 (by simpa using hv)
  have:=(BO h2 h hp he).ny
  have e:(ps.map fun x=>(x.1,ρ x.2))=(ps.toList.map fun p=>(p.1,ρ p.2)).toArray:=by apply Array.ext';simp
  simp only[execOp]
  rw[e];exact this
 case buildSlice tq n ps =>
  simp only[Option.bind_eq_some_iff]at hc
  obtain⟨qs,h1,h2⟩:=hc
  have hp:=o3 (ρ:=ρ) _ _ h1 (by simpa using hv)
  have:=(Jr h2 h hp he).ny
  have e:(ps.map fun x=>(x.1,ρ x.2))=(ps.toList.map fun p=>(p.1,ρ p.2)).toArray:=by apply Array.ext';simp
  simp only[execOp]
  rw[e];exact this
 case insert tq m k v =>
  cases h1:aP m with
  | none=>simp[h1]at hc
  | some m' =>
   cases h2:aP k with
   | none=>simp[h1,h2]at hc
   | some k' =>
    cases h3:aP v with
    | none=>simp[h1,h2,h3]at hc
    | some v' =>
     simp only[h1,h2,h3,Option.map_eq_some_iff]at hc
     obtain⟨⟨e,kt,z⟩,h4,rfl⟩:=hc
     exact zX h4 h (hv.get (by simp) h1) (hv.get (by simp) h2) (hv.get (by simp) h3) he
 case mapUpdate tq m k v =>
  cases h1:aP m with
  | none=>simp[h1]at hc
  | some m' =>
   cases h2:aP k with
   | none=>simp[h1,h2]at hc
   | some k' =>
    cases h3:aP v with
    | none=>simp[h1,h2,h3]at hc
    | some v' =>
     simp only[h1,h2,h3,Option.map_eq_some_iff]at hc
     obtain⟨⟨e,kt,z⟩,h4,rfl⟩:=hc
     exact zX h4 h (hv.get (by simp) h1) (hv.get (by simp) h2) (hv.get (by simp) h3) he
 case load tq x =>
  simp only[Option.bind_eq_some_iff]at hc
  obtain⟨y,h1,h2⟩:=hc
  exact DL h2 h (hv.get (by simp) h1) he
 case store tq a v =>
  cases h1:P.info? tq with
  | none=>simp[h1]at hc
  | some i =>
   cases h2:aP a with
   | none=>simp[h1,h2]at hc
   | some a' =>
    cases h3:aP v with
    | none=>simp[h1,h2,h3]at hc
    | some v' =>
     simp only[h1,h2,h3,Option.some.injEq]at hc
     subst hc
     simp only[ar]at he
     cases h4:(v'.ev R).cells? with
     | none=>simp[h4]at he
     | some vs =>
      simp only[h4]at he
      split at he
      ·rename_i hn
       simp only[Option.map_eq_some_iff,Prod.mk.injEq]at he
       obtain⟨H1,h5,rfl,rfl⟩:=he
       obtain⟨w',g',k1,k2,k3,k4⟩:=M0 (P:=P) h1 h (hv.get (by simp) h2) (hv.get (by simp) h3) h4 hn h5
       exact⟨.skip,undef,w',g',by simp[execOp,k1],.inr ⟨rfl,rfl⟩,k2,k3,hO,k4⟩
      ·cases he
 case nilCheck x =>
  simp only[Option.map_eq_some_iff]at hc
  obtain⟨y,h1,rfl⟩:=hc
  have vx:=hv.get (by simp) h1
  simp only[ar]at he
  have key:t=y.ev R∧H'=H∧∃v,(execOp ρ ⟨dst,.nilCheck x,ty,pos,after,guard⟩).run P w=.ok (.value v) w∧v=ρ x:=by
   simp only[execOp]
   generalize y.ev R=tx at vx he
   generalize ρ x=vv at vx
   cases vx<;>simp only[reduceCtorEq,Option.some.injEq,Prod.mk.injEq]at he<;>obtain⟨rfl,rfl⟩:=he<;>exact⟨rfl,rfl,_,rfl,rfl⟩
  obtain⟨rfl,rfl,v,k1,rfl⟩:=key
  exact⟨_,_,w,g,k1,.inl rfl,.refl _ _,h,vx,.refl _ _⟩
 case binOp op tq x y yt =>
  cases h1:aP x with
  | none=>simp[h1]at hc
  | some x' =>
   cases h2:aP y with
   | none=>simp[h1,h2]at hc
   | some y' =>
    simp only[h1,h2]at hc
    exact Jm hc h (hv.get (by simp) h1) (hv.get (by simp) h2) he
 case unOp op tq x =>
  simp only[Option.map_eq_some_iff]at hc
  obtain⟨y,h1,rfl⟩:=hc
  simp only[ar,Option.map_eq_some_iff,Prod.mk.injEq]at he
  obtain⟨t',h2,rfl,rfl⟩:=he
  exact(MR h (hv.get (by simp) h1) h2).ny
 case convert s d x =>
  simp only[Option.bind_eq_some_iff]at hc
  obtain⟨y,h1,h2⟩:=hc
  exact DM h2 h (hv.get (by simp) h1) he
 case makeFunc fn first kS =>
  cases fn<;>simp only[bG]at hc<;>(try (cases hc;done))
  rename_i f
  split at hc
  ·rename_i h0
   simp only[Option.map_eq_some_iff]at hc
   obtain⟨ys,h1,rfl⟩:=hc
   have:first=#[]:=Array.eq_empty_of_size_eq_zero h0
   subst this
   simp only[ar,Option.some.injEq,Prod.mk.injEq]at he
   obtain⟨rfl,rfl⟩:=he
   have iI:=fR (ρ:=ρ) _ _ h1 (fun x hx=>hv x (by simpa using hx))
   have:=(I6 (P:=P) (f:=f) h iI).ny
   have e:kS.map ρ=(kS.toList.map ρ).toArray:=by apply Array.ext';simp
   have e0:(#[]:Array Operand).map ρ=#[]:=by simp
   simp only[execOp]
   rw[e,e0];exact this
  ·cases hc
 case range tq m =>
  cases hu:P.underlying tq with
  | none=>simp[hu]at hc
  | some d =>
   cases d<;>simp only[hu]at hc<;>(try (cases hc;done))
   simp only[Option.map_eq_some_iff]at hc
   obtain⟨y,h1,rfl⟩:=hc
   have vm:=hv.get (by simp) h1
   simp only[ar]at he
   generalize y.ev R=tm at vm he
   cases tm<;>(try (simp only[reduceCtorEq]at he;done))
   rename_i bb
   simp only[Option.map_eq_some_iff,Prod.mk.injEq]at he
   obtain⟨es,h2,rfl,rfl⟩:=he
   exact(Jg hu h vm h2).ny
 case next it str =>
  cases str<;>simp only[bG]at hc<;>(try (cases hc;done))
  simp only[Option.map_eq_some_iff]at hc
  obtain⟨y,h1,rfl⟩:=hc
  simp[ar]at he
 case entry it =>
  simp only[Option.map_eq_some_iff]at hc
  obtain⟨y,h1,rfl⟩:=hc
  have vm:=hv.get (by simp) h1
  simp only[ar]at he
  generalize y.ev R=tm at vm he
  cases tm<;>(try (simp only[reduceCtorEq]at he;done))
  rename_i bi off
  cases off with
  | succ _=>simp at he
  | zero =>
   simp only at he
   cases hi:H[bi]? with
   | none=>simp[hi]at he
   | some yi =>
    cases yi<;>simp only[hi]at he<;>(try (cases he;done))
    rename_i bb
    cases hb:H[bb]? with
    | none=>simp[hb]at he
    | some yb =>
     cases yb<;>simp only[hb]at he<;>(try (cases he;done))
     rename_i es ix QY cur
     cases cur with
     | none=>simp at he
     | some c =>
      simp only at he
      split at he
      ·rename_i e;subst e
       simp only[Option.map_eq_some_iff,Prod.mk.injEq]at he
       obtain⟨e,h2,rfl,rfl⟩:=he
       exact(Jj h vm hb h2).ny
      ·cases he
 case makeMap tq r =>
  cases r with
  | some _=>simp[bG]at hc
  | none =>
   simp only[bG,Option.some.injEq]at hc
   subst hc
   simp only[ar,Option.some.injEq,Prod.mk.injEq]at he
   obtain⟨rfl,rfl⟩:=he
   exact(IW h).ny
 case makeSlice tq l c =>
  cases h1:aP l with
  | none=>simp[h1]at hc
  | some l' =>
   cases h2:aP c with
   | none=>simp[h1,h2]at hc
   | some c' =>
    simp only[h1,h2]at hc
    exact(Js hc h (hv.get (by simp) h1) (hv.get (by simp) h2) he).ny
 case slice tq x lo hi mx =>
  cases h1:aP x with
  | none=>simp[h1]at hc
  | some x' =>
   cases h2:jU lo with
   | none=>simp[h1,h2]at hc
   | some lo' =>
    cases h3:jU hi with
    | none=>simp[h1,h2,h3]at hc
    | some jR =>
     cases h4:jU mx with
     | none=>simp[h1,h2,h3,h4]at hc
     | some mx' =>
      simp only[h1,h2,h3,h4]at hc
      exact BN hc h (hv.get (by simp) h1) (o7 h2 (fun z hz=>hv z (by simp;simp at hz;simp[hz]))) (o7 h3 (fun z hz=>hv z (by simp;simp at hz;simp[hz]))) (o7 h4 (fun z hz=>hv z (by simp;simp at hz;simp[hz]))) he
 case fieldAddr tq x f =>
  simp only[Option.bind_eq_some_iff]at hc
  obtain⟨y,h1,h2⟩:=hc
  exact(tn h2 h (hv.get (by simp) h1) he).ny
 case field tq x f =>
  simp only[Option.bind_eq_some_iff]at hc
  obtain⟨y,h1,h2⟩:=hc
  exact(tn h2 h (hv.get (by simp) h1) he).ny
 case indexAddr tq x i =>
  cases h1:aP x with
  | none=>simp[h1]at hc
  | some x' =>
   cases h2:aP i with
   | none=>simp[h1,h2]at hc
   | some i' =>
    simp only[h1,h2]at hc
    exact(zU hc h (hv.get (by simp) h1) (hv.get (by simp) h2) he).ny
 case index tq x i =>
  cases h1:aP x with
  | none=>simp[h1]at hc
  | some x' =>
   cases h2:aP i with
   | none=>simp[h1,h2]at hc
   | some i' =>
    simp only[h1,h2]at hc
    exact(zU hc h (hv.get (by simp) h1) (hv.get (by simp) h2) he).ny
 case lookup tq m k ok =>
  cases h1:aP m with
  | none=>simp[h1]at hc
  | some m' =>
   cases h2:aP k with
   | none=>simp[h1,h2]at hc
   | some k' =>
    simp only[h1,h2,Option.map_eq_some_iff]at hc
    obtain⟨⟨e,kt,z⟩,h4,rfl⟩:=hc
    exact(Jq h4 h (hv.get (by simp) h1) (hv.get (by simp) h2) he).ny
 case extract x i =>
  simp only[Option.map_eq_some_iff]at hc
  obtain⟨y,h1,rfl⟩:=hc
  have vx:=hv.get (by simp) h1
  simp only[ar]at he
  generalize y.ev R=tx at vx he
  cases tx<;>(try simp only[reduceCtorEq]at he)
  simp only[Option.map_eq_some_iff,Prod.mk.injEq]at he
  obtain⟨t',h2,rfl,rfl⟩:=he
  exact(IT h vx h2).ny
 case call c =>
  obtain⟨callee,args,iT⟩:=c
  cases callee
  case value cv =>
   cases cv<;>simp only[bG]at hc<;>(try (cases hc;done))
   rename_i f
   split at hc
   ·rename_i n x y vY h1
    simp only[Option.some.injEq]at hc;subst hc
    have iI:=fR (ρ:=ρ) _ _ h1 (fun x hx=>hv x (by simp[Call.operands];exact .inr (by simpa using hx)))
    simp only[ar]at he
    have hd:=Jp vY h iI he
    simpa[execOp,resolve,hρ,Deferred.ofValue,invoke]using hd
   ·cases hc
  all_goals simp only[bG]at hc<;>(try (cases hc;done))
  rename_i bi
  simp only[Option.bind_eq_some_iff]at hc
  obtain⟨as,h1,h2⟩:=hc
  have iI:=fR (ρ:=ρ) _ _ h1 (fun x hx=>hv x (by simpa[Call.operands]using hx))
  have e:args.map ρ=(args.toList.map ρ).toArray:=by apply Array.ext';simp
  have e2:iT=iT.toList.toArray:=by simp
  have:=wT (rt:=ty) (cs:=args.map fun | .const _=>true|_=>false) h2 h iI he
  simp only[execOp,resolve,pure_bind,invoke]
  rw[e,e2]
  exact this
end
section
variable {P:Program} {w0 w:World} {g:Ctx} {H:af}
theorem SR.uU {b r o q:Nat}{x x':Obj}{y y':B}(h:SR w0 g H w)(hb:H[b]?=some y)(hφ:g.φ b=some (r,o,q))(h1:g.κ r 0=.mut b)(hr:w.heap[r]?=some x)(hs:fw x=true)(ft:fw x'=true)
  (qj:∀w',Le g w g w'→w'.heap[r]?=some x'→zH g w' b y') :
  Le g w g (w.putObj r x')∧SR w0 g (H.set b y') (w.putObj r x')∧Fr g H g (H.set b y'):=by
 have kE:b<H.length:=(List.getElem?_eq_some_iff.1 hb).1
 have tr:Tr w (w.putObj r x') gG (fun r'=>r'=r):=Tr.yx w r hs ft hr
 have le:Le g w g (w.putObj r x'):=Le.gZ tr (fun _ _ h=>h) (fun _ _ h=>h) (fun _ _ _ h=>h) (fun _ _ hs=>hs.elim)
 refine⟨le,h.step (fun b'=>b'=b) tr le (fun _ _ hs=>hs.elim) (fun r' hm=>⟨b,by rw[hm];exact h1,rfl⟩) (fun r' j oJ=>h.fresh r' j (by simpa[World.putObj]using oJ)) (fun b' x hx=>by rw[List.length_set];exact h.sH b' x hx)
  (fun t e x hx=>by rw[List.length_set];exact h.jj t e x hx) (fun _ _ _=>rfl) (fun _ _ _ _=>⟨id,id⟩) (fun _ _ _ _=>rfl) (fun b' x hx=>?_),by simp,fun b' x a _ d=>⟨fy a (by rintro rfl;rw[hφ]at d;cases d),d⟩⟩
 rcases eE kE hx with⟨rfl,rfl⟩|⟨bK,jk⟩
 ·exact .inr (qj _ le (World.putObj_heap_same (Array.getElem?_eq_some_iff.1 hr).1))
 ·exact .inl ⟨bK,jk⟩
theorem SR.DN {x:Obj}{y:B}(h:SR w0 g H w)(Xg:fw x=true)
  (qj:∀g' w',Le g w g' w'→g'.κ w.heap.size 0=.mut H.length→g'.φ H.length=some (w.heap.size,0,0)→w'.heap[w.heap.size]?=some x→zH g' w' H.length y) :
  ∃g',Le g w g' (w.alloc x)∧SR w0 g' (H++[y]) (w.alloc x)∧Fr g H g' (H++[y])∧g'.φ H.length=some (w.heap.size,0,0):=by
 have wI:=Tr.alloc w x (.inl Xg)
 have bK:∀r j ow,g.κ r j=ow→ow≠.free→r≠w.heap.size:=by rintro r j ow e hn rfl;exact hn (e▸h.fresh _ j (Nat.le_refl _))
 have Xh:=h.IU (b:=H.length) (Nat.le_refl _)
 have le:Le g w ((g.row w.heap.size fun _=>.mut H.length).at H.length (w.heap.size,0,0)) (w.alloc x):=Le.gZ wI
  (fun b' x hx=>by simp only[Ctx.at,Ctx.row];split;rename_i e;subst e;rw[Xh]at hx;simp at hx;exact hx)
  (fun r o hk=>by simp only[Ctx.row,Ctx.at];rw[if_neg (bK r o _ hk (by simp))];exact hk) (fun _ _ _ h=>h) (fun _ _ hs=>hs.elim)
 refine⟨_,le,?_,⟨by simp,fun b x a _ d=>⟨iV a,?_⟩⟩,by simp[Ctx.at]⟩
 ·refine h.step (fun b'=>b'=H.length) wI le (fun _ _ hs=>hs.elim) (fun _ hm=>hm.elim) (fun r o hr=>?_) (fun b' x hx=>?_) (fun t e x hx=>by have:=h.jj t e x hx;simp;omega) (fun b' _ jt=>?_) (fun r j b' jt=>?_) (fun _ _ _ _=>rfl) (fun b' x hx=>?_)
  ·simp at hr
   simp only[Ctx.row,Ctx.at];rw[if_neg (by omega)];exact h.fresh r o (by omega)
  ·simp only[Ctx.at,Ctx.row]at hx
   split at hx
   ·rename_i e;subst e;simp
   ·have:=h.sH b' x hx;simp;omega
  ·simp only[Ctx.at,Ctx.row];rw[if_neg jt]
  ·constructor<;>intro e<;>simp only[Ctx.row,Ctx.at]<;>rw[if_neg (bK r j _ e (by simp))]<;>exact e
  ·by_cases e:b'=H.length
   ·subst e
    rw[fx]at hx;cases hx
    exact .inr (qj _ _ le (by simp[Ctx.row,Ctx.at]) (by simp[Ctx.at]) (World.alloc_heap_new w _))
   ·exact .inl ⟨e,cY e hx⟩
 ·have:=(List.getElem?_eq_some_iff.1 a).1
  simp only[Ctx.at,Ctx.row];rw[if_neg (by omega)];exact d
theorem SR.freeze {b:Nat}{cs:List T}(h:SR w0 g H w)(hb:H[b]?=some (.cells cs))(hφ:∃x,g.φ b=some x) :
  ∃g',Le g w g' w∧SR w0 g' (H.set b .dead) w∧Fr g H g' (H.set b .dead)∧∀t v,VR g w t v→VR g' w (Bm b cs t) v:=by
 let g':Ctx:={ g with κ:=fun r o=>if g.κ r o=.mut b then .mA else g.κ r o }
 have le:Le g w g' w:=⟨fun _ _ h=>h,fun r o e=>by simp only[g'];rw[e];simp,fun _ _ _ h=>h,fun _ _ _ _ h=>h,rfl⟩
 have kE:b<H.length:=(List.getElem?_eq_some_iff.1 hb).1
 have tr:Tr w w (fun _ _=>False) (fun _=>False):=⟨Nat.le_refl _,fun _ _ _ _=>rfl,fun _ _ _=>rfl,fun _ _ _ h=>h,fun _ _ _ _ h=>h,fun _ _ _ _=>rfl,fun r j hr=>dz hr,rfl,rfl⟩
 have sr:SR w0 g' (H.set b .dead) w:=by
  refine h.step (fun b'=>b'=b) tr le (fun _ _ h=>h.elim) (fun _ h=>h.elim) (fun r o hr=>?_) (fun b' x hx=>?_) (fun t e x hx=>?_) (fun _ _ _=>rfl) (fun r j b' bK=>⟨fun e=>?_,fun e=>?_⟩) (fun _ _ _ _=>rfl) (fun b' x hx=>?_)
  ·simp only[g'];rw[h.fresh r o hr];simp
  ·rw[List.length_set];exact h.sH b' x hx
  ·rw[List.length_set];exact h.jj t e x hx
  ·simp only[g'];rw[e,if_neg (by simpa using bK)]
  ·simp only[g'];rw[e,if_neg (by simp)]
  ·rcases eE kE hx with⟨rfl,rfl⟩|⟨bK,jk⟩
   ·exact .inr trivial
   ·exact .inl ⟨bK,jk⟩
 have one:∀t v,VR g w t v→VR g' w (uG b cs t) v:=by
  intro t v hv
  cases t with
  | ax b' off len n =>
   simp only[uG]
   split
   ·rename_i hc
    obtain⟨rfl,hle⟩:=hc
    cases hv with
    | @ax _ _ _ _ r o q cap hp hc hq =>
     obtain⟨c1,c2,c3⟩:=h.eg _ _ hb r o q hp
     have hlen:(sG cs off len n).length=len:=by simp[sG]
     have Xk:∀(i j:Nat) (c:List T) (t:T),(sG cs off len n)[i]?=some c→c[j]?=some t→j<n∧i<len∧cs[off+i*n+j]?=some t:=by
      intro i j c t hi hj
      have lx:i<len:=by have:=(List.getElem?_eq_some_iff.1 hi).1;rw[hlen]at this;exact this
      simp only[sG,List.getElem?_map,List.getElem?_range lx,Option.map_some,Option.some.injEq]at hi
      subst hi
      rw[List.getElem?_take]at hj
      split at hj
      ·rename_i yF
       rw[List.getElem?_drop]at hj
       exact⟨yF,lx,hj⟩
      ·cases hj
     have key:∀(i j:Nat) (c:List T) (t:T),(sG cs off len n)[i]?=some c→c[j]?=some t→t.one=true∧∃v,w.cell? ⟨r,o+off+i*n+j,none⟩=some v∧VR g w t v∧g.κ r (o+off+i*n+j)=.mut b':=by
      intro i j c t hi hj
      obtain⟨h1,h2,h3⟩:=Xk i j c t hi hj
      obtain⟨k1,v,k2,k3⟩:=c3 _ _ h3
      have iW:off+i*n+j<cs.length:=(List.getElem?_eq_some_iff.1 h3).1
      refine⟨k1,v,?_,k3,?_⟩
      ·rw[show o+off+i*n+j=o+(off+i*n+j) by omega];exact k2
      ·exact(c2 (o+off+i*n+j) (by omega) (by omega)).1
     have:=VR.sl (g:=g') (w:=w) (k:=.arg) (es:=sG cs off len n) (r:=r) (o:=o+off) (cap:=cap) (n:=n) (fun i j=>(w.cell? ⟨r,o+off+i*n+j,none⟩).getD undef) trivial (by rw[hlen];exact hc)
      (fun c iS=>by
       obtain⟨i,hi,rfl⟩:=List.mem_map.1 iS
       have hi:=List.mem_range.1 hi
       have:i*n+n≤len*n:=by rw[←Nat.succ_mul];exact Nat.mul_le_mul_right n hi
       rw[List.length_take,List.length_drop];omega)
      (fun i j c t hi hj=>by
       obtain⟨k1,v,k2,_,k4⟩:=key i j c t hi hj
       refine⟨k1,?_,by rw[k2];rfl⟩
       simp only[g'];rw[if_pos k4])
      (fun i j c t hi hj=>by
       obtain⟨_,v,k2,k3,_⟩:=key i j c t hi hj
       rw[k2];exact k3.mono le)
     rw[hlen]at this
     exact this
   ·exact hv.mono le
  | _=>exact hv.mono le
 refine⟨g',le,sr,⟨by simp,fun b' y a _ d=>⟨fy a (by rintro rfl;obtain⟨x,hx⟩:=hφ;rw[hx]at d;cases d),d⟩⟩,fun t v hv=>?_⟩
 cases t with
 | bJ vs =>
  cases hv with
  | bJ hl h2 =>
   refine .bJ (by simpa using hl) fun i t v hi Jt=>?_
   rw[List.getElem?_map,Option.map_eq_some_iff]at hi
   obtain⟨t',Ju,rfl⟩:=hi
   exact one _ _ (h2 i t' v Ju Jt)
 | _=>exact one _ _ hv
end
def dH (P:Program)(f:FuncId):Bool :=
 match P.funcs[f]? with
 | some fn=>fn.name != "runtime.NumGoroutine"&&fn.body.isSome
 | none=>false
def bQ (P:Program)(mu:Bool):Op→Option Lq
 | .call { callee:=.value (.func f),args,.. }=>if dH P f then(fQ args.toList).map (.call f)else match zT P f,fQ args.toList with
  | some n,some [x,y]=>some (.b (.Qe n x y))
  | _,_=>none
 | .call { callee:=.value (.tmp t),args,.. }=>(fQ args.toList).map (.bD (.r t))
 | op=>(bG P mu op).map .b
def tu (ops:Array Oper):Option (Nat×Bool)→Option Gd
 | none=>some none
 | some (j,b)=>match (ops[j]?).bind (·.dst)with
  | some d=>some (some (d,b))
  | none=>none
def dV:X→List Nat
 | .r t=>[t]
 | .c _=>[]
def o8:Option X→List Nat
 | some x=>dV x
 | none=>[]
def DP:Bo→List Nat
 | .ay x | .un _ x | .iC _ x | .uC x | .cvb x | .len _ x | .box x | .ld _ _ x | .kT _ x | .QT _ _ _ x | .ext _ x | .uD x | .cap x | .MI x | .qh x | .MJ x | .Qf _ _ x=>dV x
 | .bin _ x y | .mU _ _ x y | .beq _ x y | .eqs _ _ x y | .st _ x y | .eI _ x y | .MH _ _ x y | .QU x y | .VT _ _ _ x y | .nB _ _ _ x y | .del _ x y | .app _ _ _ x y | .WW _ _ _ x y | .mn x y | .mx x y | .Bg _ x y | .Qe _ x y | .QW _ _ _ x y=>dV x++dV y
 | .pick x y z | .zD _ x y z=>dV x++dV y++dV z
 | .build _ ps=>ps.flatMap fun p=>dV p.2.2
 | .oI _ _ ps | .MK _ _ ps=>ps.flatMap fun p=>dV p.2
 | .QV x lo hi=>dV x++o8 lo++o8 hi
 | .fX _ x lo hi mx=>dV x++o8 lo++o8 hi++o8 mx
 | .Iw _ l=>l.flatMap dV
 | .alloc _ | .zC=>[]
def zY:Lq→List Nat
 | .b b=>DP b
 | .call _ as=>as.flatMap dV
 | .bD f as=>dV f++as.flatMap dV
def mK:Gd→List Nat
 | some (t,_)=>[t]
 | none=>[]
def fg (l:List Operand):List Nat:=l.filterMap fun | .tmp t=>some t|_=>none
def tmpsOf (o:Oper)(op:Lq)(g:Gd):List Nat:=fg o.op.operands.toList++(mK g++zY op)
def fJ (P:Program)(n:Nat)(ops:Array Oper)(mu:Bool)(o:Oper)(Bh:List Rd):Option O :=
 match bQ P mu o.op,tu ops o.guard with
 | some op,some g=>if (tmpsOf o op g).all (·<n)&&(o.dst.all (·<n))then some ⟨o.dst,op,g,Bh⟩else none
 | _,_=>none
def ga (P:Program)(n:Nat)(ops:Array Oper)(mu:Nat→Bool):List Nat→Option (List O)
 | []=>some []
 | i :: is=>match ops[i]? with
  | some o=>match fJ P n ops (mu i) o [],ga P n ops mu is with
   | some o,some l=>some (o :: l)
   | _,_=>none
  | none=>none
def cC (o:Oper):List Nat:=(o.after.toList.filter fun e=>Region.binds .any e).map (·.on)
def jV (acc:List Nat)(o:Oper):Nat:=(cC o).foldl (fun s j=>s ||| 2^j ||| acc.getD j 0) 0
def eX:List Oper→List Nat→List Nat
 | [],acc=>acc
 | o :: l,acc=>eX l (acc++[jV acc o])
inductive Kl where|pure|read|make|Nl
 deriving DecidableEq
def qT:Bo→Kl
 | .ay _ | .pick _ _ _ | .bin _ _ _ | .beq _ _ _ | .eqs _ _ _ _ | .un _ _ | .iC _ _ | .build _ _ | .oI _ _ _ | .kT _ _ | .QT _ _ _ _ | .eI _ _ _ | .MH _ _ _ _ | .QU _ _ | .VT _ _ _ _ _ | .QV _ _ _ | .fX _ _ _ _ _
 | .Iw _ _ | .ext _ _ | .mn _ _ | .mx _ _ | .uD _=>.pure
 | .mU _ c _ _=>if c=.slice then .Nl else .pure
 | .ld _ _ _ | .nB _ _ _ _ _ | .len _ _ | .uC _=>.read
 | .alloc _ | .zC=>.make
 | _=>.Nl
def HS (o:O):Kl:=match o.op with
 | .b b=>match o.d with|some _=>qT b|none=>.Nl
 | _=>.Nl
structure It where
 i:Nat
 o:O
 early:Bool
 ts:List Nat
def jm (b:Nat):List It→List Rd
 | []=>[]
 | y :: l=>match y.early,y.o.d,y.o.op with
  | true,some d,.b op=>if qT op=.read∧b.testBit y.i=false then⟨d,op,y.o.g⟩ :: jm b l else jm b l
  | _,_,_=>jm b l
def yG:Op→Bool
 | .alloc _ | .makeMap _ none=>true
 | _=>false
def DQ (b:Nat)(before:List It)(x:It)(oper:Oper):Bool :=
 ((cC oper).all fun j=>decide (j<x.i)&&before.any (·.i==j)) &&
 (before.all fun y=>y.early||b.testBit y.i) &&
 (before.all fun y=>y.i != x.i) &&
 (match x.o.d with
  | some d=>(before.all fun y=>y.o.d != some d&&(!y.ts.contains d||(!x.early&&b.testBit y.i)))&&!x.ts.contains d
  | none=>true) &&
 (before.all fun y=>match y.o.d with
  | some d=>!x.ts.contains d||b.testBit y.i
  | none=>true) &&
 (!x.early||(HS x.o != .Nl&&(HS x.o != .make||yG oper.op)))
def yH (P:Program)(n:Nat)(ops:Array Oper)(mu:Nat→Bool)(b:Nat)(before:List It)(x:Nat×Bool):Option It :=
 match ops[x.1]? with
 | some o=>match fJ P n ops (mu x.1) o (if x.2 then []else jm b before)with
  | some o'=>let y:It:=⟨x.1,o',x.2,tmpsOf o o'.op o'.g⟩
   if DQ b before y o then some y else none
  | none=>none
 | none=>none
def dX (P:Program)(n:Nat)(ops:Array Oper)(mu:Nat→Bool)(bs:List Nat)(before:List It):List (Nat×Bool)→Option (List It)
 | []=>if (List.range ops.size).all fun i=>before.any (·.i==i)then some []else none
 | x :: l=>match yH P n ops mu (bs.getD x.1 0) before x with
  | some y=>(dX P n ops mu bs (before++[y]) l).map (y :: ·)
  | none=>none
structure An where
 mu:List (Nat×Nat)
 ord:List (Nat×List (Nat×Bool))
def bE (P:Program)(n:Nat)(an:An)(top:Bool):Code→Option C
 | .skip=>some .skip
 | .region id ops false=>(ga P n ops (fun i=>an.mu.contains (id,i)) (List.range ops.size)).map .ops
 | .region id ops true=>match an.ord.find? (·.1==id)with
  | some (_,ord)=>(dX P n ops (fun i=>an.mu.contains (id,i)) (eX ops.toList []) [] ord).map fun jW=>.ops (jW.map (·.o))
  | none=>none
 | .seq a b=>match bE P n an top a,bE P n an top b with
  | some a,some b=>some (.seq a b)
  | _,_=>none
 | .cond c a b=>match aP c,bE P n an top a,bE P n an top b with
  | some x,some a,some b=>if (match c with | .tmp t=>decide (t<n)|_=>true)then some (.cond x a b)else none
  | _,_,_=>none
 | .block id a=>(bE P n an top a).map (.block id)
 | .loop a=>(bE P n an top a).map .loop
 | .exit id=>some (.exit id)
 | .ret=>some .ret
 | .rangeFunc g ps b6 body=>match aP g,bE P n an false b6,bE P n an false body with
  | some x,some a,some b=>if top&&(dV x).all (·<n)&&ps.toList.all (·<n)then some (.cL n x ps.toList a b)else none
  | _,_,_=>none
 | _=>none
def nQ (P:Program):List ResultVar→Option (List Rs)
 | []=>some []
 | .tmp t :: l=>(nQ P l).map (.t t :: ·)
 | .cell a t :: l=>match P.underlying t,P.info? t with
  | some d,some i=>(nQ P l).map (.cl a (if et d then i.size else 1) (et d) :: ·)
  | _,_=>none
def BP (n:Nat):Rs→Bool
 | .t r | .cl r _ _=>r<n
def aj (P:Program)(an:An)(f:FuncId):Option Fn :=
 match P.funcs[f]? with
 | some fn=>match fn.body,nQ P fn.results.toList with
  | some c,some res=>match bE P fn.ntmps an true c with
   | some c=>if dH P f&&decide (fn.params.size+fn.nfree≤fn.ntmps)&&res.all (BP fn.ntmps)then some ⟨fn.ntmps,fn.params.size+fn.nfree,res,c⟩else none
   | none=>none
  | _,_=>none
 | none=>none
section
variable {R R':av} {H:af}
theorem cM {x:X}(h:∀t∈dV x,R t=R' t):x.ev R=x.ev R':=by
 cases x with
 | r t=>exact h t (by simp[dV])
 | c v=>rfl
theorem lV {x:Option X}{d:Nat}(h:∀t∈o8 x,R t=R' t):fH R d x=fH R' d x:=by
 cases x with
 | none=>rfl
 | some x=>simp only[fH];rw[cM h]
theorem nR:∀(ps:List (Nat×Nat×X)),(∀t∈ps.flatMap (fun p=>dV p.2.2),R t=R' t)→fu R ps=fu R' ps
 | [],_=>rfl
 | (off,n,x) :: ps,h=>by
  simp only[fu]
  rw[cM (x:=x) (R':=R') (fun t ht=>h t (by simp[ht])),nR ps (fun t ht=>h t (by rw[List.flatMap_cons];exact List.mem_append_right _ ht))]
theorem pK (n:Nat):∀(ps:List (Nat×X)) (es:List (List T)),(∀t∈ps.flatMap (fun p=>dV p.2),R t=R' t)→jy n es R ps=jy n es R' ps
 | [],_,_=>rfl
 | (i,x) :: ps,es,h=>by
  simp only[jy]
  rw[cM (x:=x) (R':=R') (fun t ht=>h t (by simp[ht]))]
  split
  ·split
   ·exact pK n ps _ (fun t ht=>h t (by rw[List.flatMap_cons];exact List.mem_append_right _ ht))
   ·rfl
  ·rfl
theorem pL (n:Nat):∀(ps:List (Nat×X)) (es:List (List T)),(∀t∈ps.flatMap (fun p=>dV p.2),R t=R' t)→jz n es R ps=jz n es R' ps
 | [],_,_=>rfl
 | (i,x) :: ps,es,h=>by
  simp only[jz]
  rw[cM (x:=x) (R':=R') (fun t ht=>h t (by simp[ht]))]
  split
  ·split
   ·exact pL n ps _ (fun t ht=>h t (by rw[List.flatMap_cons];exact List.mem_append_right _ ht))
   ·rfl
  ·rfl
theorem qU:∀(l:List X),(∀t∈l.flatMap dV,R t=R' t)→l.map (X.ev R)=l.map (X.ev R')
 | [],_=>rfl
 | x :: l,h=>by
  simp only[List.map_cons]
  rw[cM (x:=x) (R':=R') (fun t ht=>h t (by simp[ht])),qU l (fun t ht=>h t (by rw[List.flatMap_cons];exact List.mem_append_right _ ht))]
theorem qV {b:Bo}(h:∀t∈DP b,R t=R' t):ar R H b=ar R' H b:=by
 cases b<;>simp only[DP,List.mem_append]at h
 case build z ps=>simp only[ar];rw[nR ps h]
 case oI n z ps=>simp only[ar];rw[pK _ ps _ h]
 case MK n z ps=>simp only[ar];rw[pL _ ps _ h]
 case Iw f l=>simp only[ar,Ls];rw[qU l h]
 case alloc=>rfl
 case zC=>rfl
 case QV x lo hi =>
  have h1:=cM (x:=x) (R:=R) (R':=R') (fun t ht=>h t (.inl (.inl ht)))
  have h2:=fun d=>lV (x:=lo) (d:=d) (R:=R) (R':=R') (fun t ht=>h t (.inl (.inr ht)))
  have h3:=fun d=>lV (x:=hi) (d:=d) (R:=R) (R':=R') (fun t ht=>h t (.inr ht))
  simp only[ar,h1,h2,h3]
 case fX n x lo hi mx =>
  have hm:∀m,mx=some m→m.ev R=m.ev R':=fun m e=>cM (fun t ht=>h t (.inr (by subst e;exact ht)))
  have h1:=cM (x:=x) (R:=R) (R':=R') (fun t ht=>h t (.inl (.inl (.inl ht))))
  have h2:=fun d=>lV (x:=lo) (d:=d) (R:=R) (R':=R') (fun t ht=>h t (.inl (.inl (.inr ht))))
  have h3:=fun d=>lV (x:=hi) (d:=d) (R:=R) (R':=R') (fun t ht=>h t (.inl (.inr ht)))
  simp only[ar,h1,h2,h3]
  cases mx with
  | none =>
   cases x.ev R' with
   | sl k es=>dsimp only;cases fH R' 0 lo with
    | none=>rfl
    | some l=>cases fH R' es.length hi<;>rfl
   | ax b off len n'=>rfl
   | _=>rfl
  | some m =>
   cases x.ev R' with
   | sl k es=>dsimp only;cases fH R' 0 lo with
    | none=>rfl
    | some l=>cases fH R' es.length hi with
     | none=>rfl
     | some h=>dsimp only;rw[hm m rfl]
   | ax b off len n'=>rfl
   | _=>rfl
 all_goals first
  | (simp only[ar,cM h];done)
  | (rename_i x;simp only[ar];rw[cM (x:=x) (R':=R') h])
  | (rename_i x y;simp only[ar];rw[cM (x:=x) (R':=R') (fun t ht=>h t (.inl ht)),cM (x:=y) (R':=R') (fun t ht=>h t (.inr ht))])
  | (rename_i x y z;simp only[ar];rw[cM (x:=x) (R':=R') (fun t ht=>h t (.inl (.inl ht))),cM (x:=y) (R':=R') (fun t ht=>h t (.inl (.inr ht))),cM (x:=z) (R':=R') (fun t ht=>h t (.inr ht))])
theorem lz {g:Gd}(h:∀t∈mK g,R t=R' t):bO R g=bO R' g:=by
 cases g with
 | none=>rfl
 | some p=>obtain⟨t,b⟩:=p;simp only[bO];rw[h t (by simp[mK])]
theorem wU {b:Bo}(hk:qT b=.pure)(H2:af):ar R H2 b=(ar R H b).map fun p=>(p.1,H2):=by
 cases b<;>simp only[qT]at hk<;>(try (cases hk;done))<;>simp only[ar]
 case fX n x lo hi mx =>
  cases x.ev R with
  | sl k es =>
   dsimp only
   cases fH R 0 lo with
   | none=>rfl
   | some l=>cases fH R es.length hi with
    | none=>rfl
    | some h=>cases mx with
     | none=>dsimp only;split<;>rfl
     | some m=>dsimp only;cases cq (m.ev R)with
      | none=>rfl
      | some m=>dsimp only;split<;>rfl
  | ax b off len n' =>
   dsimp only
   cases fH R 0 lo with
   | none=>rfl
   | some l=>cases fH R len hi with
    | none=>rfl
    | some h=>cases mx with
     | none=>dsimp only;split<;>rfl
     | some m=>rfl
  | ej b off len n' c =>
   dsimp only
   cases fH R 0 lo with
   | none=>rfl
   | some l=>cases fH R len hi with
    | none=>rfl
    | some h=>cases mx with
     | none=>dsimp only;split<;>rfl
     | some m=>rfl
  | _=>rfl
 all_goals (try rfl)
 all_goals (try (simp[Option.map_map,Function.comp_def];done))
 all_goals (try (simp[Option.map_map,Option.map_bind,Function.comp_def];done))
 all_goals (repeat' split)
 all_goals (try (simp_all [Option.map_map,Function.comp_def];done))
theorem tv {b:Bo}{v:T}{H':af}(hk:qT b=.pure)(h:ar R H b=some (v,H')):H'=H∧∀H2,ar R H2 b=some (v,H2):=by
 constructor
 ·have h1:=wU (R:=R) (H:=H) hk H
  rw[h]at h1;simp at h1;exact h1
 ·intro H2;rw[wU (H:=H) hk H2,h];rfl
theorem lX {l:af}{b:Nat}{x:B}(h:H[b]?=some x):(H++l)[b]?=some x:=by
 rw[List.getElem?_append_left (List.getElem?_eq_some_iff.1 h).1];exact h
theorem Jv {n:Nat}{t:T}{cs:List T}(l:af)(h:nC H n t=some cs):nC (H++l) n t=some cs:=by
 unfold nC at *
 cases t<;>simp only[]at h ⊢<;>try (first|exact h|cases h)
 rename_i b off
 cases hb:H[b]? with
 | none=>simp[hb]at h
 | some x=>rw[hb]at h;rw[lX hb];exact h
theorem BQ {t:T}{es:List (T×T)}(l:af)(h:gE H t=some es):gE (H++l) t=some es:=by
 unfold gE at *
 cases t<;>simp only[]at h ⊢<;>try (first|exact h|cases h)
 rename_i b
 cases hb:H[b]? with
 | none=>simp[hb]at h
 | some x=>rw[hb]at h;rw[lX hb];exact h
theorem DR {t:T}{k:Lc}{n:Nat}(l:af)(h:iH H k t=some n):iH (H++l) k t=some n:=by
 unfold iH at *
 cases k<;>cases t<;>simp only[]at h ⊢<;>try (first|exact h|cases h)
 rename_i b
 cases hb:H[b]? with
 | none=>simp[hb]at h
 | some x=>rw[hb]at h;rw[lX hb];exact h
theorem wV {t:T}{n:Nat}{es:List (List T)}(l:af)(h:bA H n t=some es):bA (H++l) n t=some es:=by
 unfold bA at *
 cases t<;>simp only[]at h ⊢<;>try (first|exact h|cases h)
 rename_i b off len n'
 cases hb:H[b]? with
 | none=>simp[hb]at h
 | some x=>rw[hb]at h;rw[lX hb];exact h
theorem tw {b:Bo}{v:T}{H':af}(hk:qT b=.read)(h:ar R H b=some (v,H')):H'=H∧∀l,ar R (H++l) b=some (v,H++l):=by
 cases b<;>simp only[qT]at hk<;>(try (cases hk;done))<;>simp only[ar]at h ⊢
 case mU=>split at hk<;>cases hk
 case uC x =>
  cases he:bA H 1 (x.ev R)with
  | none=>simp[he]at h
  | some es =>
   rw[he]at h
   refine⟨?_,fun l=>?_⟩
   ·dsimp only at h;split at h
    ·cases h
    ·simp only[Option.map_eq_some_iff,Prod.mk.injEq]at h;obtain⟨_,_,_,e⟩:=h;exact e.symm
   ·rw[wV l he]
    dsimp only at h ⊢;split at h
    ·cases h
    ·simp only[Option.map_eq_some_iff,Prod.mk.injEq]at h ⊢
     obtain⟨a,h1,h2,_⟩:=h
     rename_i bK
     exact⟨a,h1,h2,trivial⟩
 case len k x =>
  simp only[Option.map_eq_some_iff,Prod.mk.injEq]at h ⊢
  obtain⟨a,h1,h2,h3⟩:=h
  exact⟨h3.symm,fun l=>⟨a,DR l h1,h2,trivial⟩⟩
 case ld n ag x =>
  cases he:nC H n (x.ev R)with
  | none=>simp[he]at h
  | some cs =>
   simp only[he,Option.map_eq_some_iff,Prod.mk.injEq]at h
   obtain⟨a,h1,h2,h3⟩:=h
   exact⟨h3.symm,fun l=>by simp[Jv l he,h1,h2]⟩
 case nB kt z ok m k =>
  split at h
  ·rename_i hh
   simp only[hh,if_true]
   cases he:gE H (m.ev R)with
   | none=>simp[he]at h
   | some es =>
    simp only[he]at h
    simp only[BQ _ he]
    split at h
    ·split at h
     ·cases h;exact⟨rfl,fun l=>rfl⟩
     ·cases h
    ·cases h;exact⟨rfl,fun l=>rfl⟩
    ·cases h
  ·cases h
end
theorem wW:∀(l:List Oper) (acc:List Nat),∃rest,eX l acc=acc++rest∧rest.length=l.length
 | [],acc=>⟨[],by simp[eX],rfl⟩
 | o :: l,acc=>by
  obtain⟨r,h,hl⟩:=wW l (acc++[jV acc o])
  exact⟨jV acc o :: r,by simp[eX,h],by simp[hl]⟩
theorem wX:∀(l:List Oper) (acc:List Nat) (k:Nat) (o:Oper),l[k]?=some o→(eX l acc)[acc.length+k]?=some (jV ((eX l acc).take (acc.length+k)) o)
 | [],_,_,_,h=>by simp at h
 | x :: l,acc,0,o,h=>by
  simp at h;subst h
  obtain⟨r,h,_⟩:=wW l (acc++[jV acc x])
  simp[eX,h]
 | x :: l,acc,k+1,o,h=>by
  have:=wX l (acc++[jV acc x]) k o (by simpa using h)
  simp only[List.length_append,List.length_singleton]at this
  simp only[eX]
  rw[show acc.length+(k+1)=acc.length+1+k by omega]
  exact this
theorem tz (acc:List Nat)(t:Nat):∀(l:List Nat) (s:Nat),(l.foldl (fun s j=>s ||| 2^j ||| acc.getD j 0) s).testBit t=true→s.testBit t=true∨∃j∈l,t=j∨(acc.getD j 0).testBit t=true
 | [],s,h=>.inl h
 | x :: l,s,h=>by
  rcases tz acc t l _ h with h|⟨j,hj,h⟩
  ·simp only[Nat.testBit_or,Bool.or_eq_true,Nat.testBit_two_pow,decide_eq_true_eq]at h
   rcases h with(h|h)|h
   ·exact .inl h
   ·exact .inr ⟨x,by simp,.inl h.symm⟩
   ·exact .inr ⟨x,by simp,.inr h⟩
  ·exact .inr ⟨j,by simp[hj],h⟩
theorem wY {acc:List Nat}{o:Oper}{t:Nat}(h:(jV acc o).testBit t=true):∃j∈cC o,t=j∨(acc.getD j 0).testBit t=true:=by
 rcases tz acc t _ _ h with h|h
 ·simp at h
 ·exact h
theorem wZ {ops:Array Oper}{D:Nat→Prop}(hD:∀i o,ops[i]?=some o→D i→∀j∈cC o,j<i∧D j) :
  ∀(i:Nat) (o:Oper) (t:Nat),ops[i]?=some o→(∀j∈cC o,j<i∧D j)→((eX ops.toList []).getD i 0).testBit t=true→D t:=by
 intro i
 induction i using Nat.strongRecOn with
 | _ i ih =>
  intro o t ho hp hb
  have h1:=wX ops.toList [] i o (by simpa using ho)
  simp only[List.length_nil,Nat.zero_add]at h1
  rw[List.getD_eq_getElem?_getD,h1,Option.getD_some]at hb
  obtain⟨j,hj,h⟩:=wY hb
  obtain⟨aw,hDj⟩:=hp j hj
  rcases h with rfl|h
  ·exact hDj
  ·rw[List.getD_eq_getElem?_getD,List.getElem?_take,if_pos aw,←List.getD_eq_getElem?_getD]at h
   have lx:i<ops.size:=(Array.getElem?_eq_some_iff.1 ho).1
   have hoj:ops[j]?=some ops[j]:=Array.getElem?_eq_getElem (Nat.lt_trans aw lx)
   exact ih j aw ops[j] t hoj (fun k hk=>hD j _ hoj hDj k hk) h
def Fw (r:Option Nat):Fence:={ fn:=fun _=>True,depth:=none,alive:=false,round:=r }
theorem w6 {r r':Option Nat}{n:Nat}{P:Program}{f:FuncId}{args:Array Value}{w:World}{K:Ending→World→Prop}(h:CallsIn (Fw r) n P f args w K):CallsIn (Fw r') n P f args w K:=h
section
variable {P:Program} {w0 w:World} {g:Ctx} {H H':af} {R:av} {a:Act} {n:Nat} {ops:Array Oper}
theorem bB {mu:Bool}{o:Oper}{st:List Rd}{y:O}(h:fJ P n ops mu o st=some y):∃op gd,bQ P mu o.op=some op∧tu ops o.guard=some gd∧y=⟨o.dst,op,gd,st⟩ ∧
  (∀t∈tmpsOf o op gd,t<n)∧∀d,o.dst=some d→d<n:=by
 unfold fJ at h
 cases h1:bQ P mu o.op with
 | none=>simp[h1]at h
 | some op=>cases h2:tu ops o.guard with
  | none=>simp[h1,h2]at h
  | some gd =>
   simp only[h1,h2]at h
   split at h
   ·rename_i hh
    simp only[Bool.and_eq_true,List.all_eq_true,decide_eq_true_eq]at hh
    exact⟨op,gd,rfl,rfl,(Option.some.inj h).symm,hh.1,fun d hd=>by have:=hh.2;simp[hd]at this;exact this⟩
   ·cases h
def gL (g:Ctx)(w:World)(R:av)(a:Act)(ts:List Nat):Prop:=∀t∈ts,VR g w (R t) (a.tmps.getD t undef)
theorem gL.sub {ts MO:List Nat}(h:gL g w R a ts)(hs:∀t∈MO,t∈ts):gL g w R a MO:=fun t ht=>h t (hs t ht)
theorem tC {l:List Operand}(h:gL g w R a (fg l)):RV g w R a.eval l:=by
 intro x hx y hy
 cases x with
 | tmp t=>simp only[aP,Option.some.injEq]at hy;subst hy;exact h t (by simp only[fg,List.mem_filterMap];exact⟨_,hx,rfl⟩)
 | const v =>
  simp only[aP,Option.map_eq_some_iff]at hy
  obtain⟨t,h1,rfl⟩:=hy
  exact lS h1
 | «global» x=>simp[aP]at hy
 | func f=>simp only[aP,Option.some.injEq]at hy;subst hy;exact .fn rfl (by simp)
theorem pb {o:Oper}{gd:Gd}(hg:tu ops o.guard=some gd)(hn:a.tmps.size=n)(hd:∀t∈mK gd,t<n)(h:gL g w R a (mK gd)):Region.wanted o (yielded ops a.tmps)=bO R gd:=by
 unfold Region.wanted
 cases ho:o.guard with
 | none=>rw[ho]at hg;simp only[tu,Option.some.injEq]at hg;subst hg;rfl
 | some p =>
  obtain⟨j,b⟩:=p
  rw[ho]at hg
  simp only[tu]at hg
  cases gM:(ops[j]?).bind (·.dst)with
  | none=>simp[gM]at hg
  | some d =>
   simp only[gM,Option.some.injEq]at hg;subst hg
   have hv:=h d (by simp[mK])
   have aw:d<a.tmps.size:=by rw[hn];exact hd d (by simp[mK])
   simp only[yielded,gM,Option.bind_some,bO]
   rw[Array.getD_eq_getD_getElem?,Array.getElem?_eq_getElem aw,Option.getD_some]at hv
   rw[Array.getElem?_eq_getElem aw]
   generalize R d=t at *
   generalize a.tmps[d]=v at *
   cases hv<;>simp
theorem gT {mu:Bool}{o:Op}{op:Lq}(h:bQ P mu o=some op):∀c,o≠.defer c:=by
 rintro c rfl;simp[bQ,bG]at h
theorem jF {mu:Bool}{o:Op}{b:Bo}(h:bQ P mu o=some (.b b)):bG P mu o=some b:=by
 unfold bQ at h
 split at h
 ·split at h
  ·simp only[Option.map_eq_some_iff]at h;obtain⟨_,_,h⟩:=h;cases h
  ·split at h
   ·rename_i h1 h2
    cases h
    simp only[bG,h1,h2]
   ·cases h
 ·simp only[Option.map_eq_some_iff]at h;obtain⟨_,_,h⟩:=h;cases h
 ·simp only[Option.map_eq_some_iff]at h;obtain⟨x,h1,h⟩:=h;cases h;exact h1
theorem DS {r:Option Nat}{mu:Bool}{o:Oper}{b:Bo}{t:T}(hc:bQ P mu o.op=some (.b b))(h:SR w0 g H w)(hr:gL g w R a (fg o.op.operands.toList))(he:ar R H b=some (t,H')) :
  ∃v w' g',(∀(K:Act→World→Prop) (Q:Exit→Act→World→Prop),K (a.put o.dst v) w'→o.wpIn (Fw r) 0 P a w K Q)∧Le g w g' w'∧SR w0 g' H' w'∧VR g' w' t v∧Fr g H g' H':=by
 obtain⟨nx,v,w',g',h1,h2,h3⟩:=Nk (fun _=>rfl) (jF hc) h (tC hr) he
 refine⟨v,w',g',fun K Q hk=>⟨fun _ _=>trivial,?_⟩,h3⟩
 rw[Oper.semAt_eq _ _ _ (gT hc),h1]
 rcases h2 with rfl|⟨rfl,rfl⟩
 ·exact hk
 ·exact hk
theorem yI {mu:Bool}{o:Op}{x:X}(h:bG P mu o=some (.qh x)):∃it,o=.next it false∧aP it=some x:=by
 cases o
 case next it str =>
  cases str<;>simp only[bG]at h<;>(try (cases h;done))
  simp only[Option.map_eq_some_iff,Bo.qh.injEq]at h
  obtain⟨y,h1,rfl⟩:=h
  exact⟨it,rfl,h1⟩
 case range ty m =>
  simp only[bG]at h
  split at h
  ·simp only[Option.map_eq_some_iff]at h;obtain⟨_,_,h⟩:=h;cases h
  ·cases h
 case makeMap ty r =>
  cases r<;>simp only[bG]at h<;>cases h
 case makeFunc fn first kS =>
  cases fn<;>simp only[bG]at h<;>(try (cases h;done))
  split at h
  ·simp only[Option.map_eq_some_iff]at h;obtain⟨_,_,h⟩:=h;cases h
  ·cases h
 case call c =>
  obtain⟨callee,args,iT⟩:=c
  cases callee
  case value x =>
   cases x<;>simp only[bG]at h<;>(try (cases h;done))
   split at h<;>cases h
  case builtin b =>
   simp only[bG,Option.bind_eq_some_iff]at h
   obtain⟨l,_,h⟩:=h
   unfold jE at h
   split at h
   ·have hz:∀tl l b',wQ P tl l=some b'→b'≠.qh x:=by
     rintro tl l b' hb rfl
     simp only[wQ]at hb
     (repeat' split at hb)<;>first|(cases hb;done)|(simp at hb;done)
    split at h
    ·rename_i b' hb;exact absurd (Option.some.inj h) (hz _ _ _ hb)
    ·simp only[lU]at h
     (repeat' split at h)<;>first|(cases h;done)|(simp at h;done)
   all_goals ((repeat' split at h)<;>first|(cases h;done)|(simp at h;done))
  all_goals (simp only[bG]at h;cases h)
 all_goals simp only[bG]at h
 all_goals first|(cases h;done)|(simp only[Option.map_eq_some_iff]at h;obtain⟨_,_,h⟩:=h;cases h;done)|skip
 all_goals (try simp only[Option.bind_eq_some_iff]at h)
 all_goals (try (obtain⟨_,_,h⟩:=h))
 all_goals (try simp only[DJ,tj,ti,m3,yC,oY,oZ,BL,BM,yD]at h)
 all_goals first|((repeat' split at h)<;>first|(cases h;done)|(simp at h;done))|skip
theorem DT {r:Option Nat}{mu:Bool}{o:Oper}{x:X}{b bi:Nat}{es:List (T×T)}{ix:List Nat}{cur:Option Nat}(hc:bQ P mu o.op=some (.b (.qh x)))(h:SR w0 g H w)(hr:gL g w R a (fg o.op.operands.toList))
  (hx:x.ev R=.ptr bi 0) (hb:H[b]?=some (.cT es ix bi cur)) :
  ∃t H' v w' g',nE H b bi es ix t H'∧(∀(K:Act→World→Prop) (Q:Exit→Act→World→Prop),K (a.put o.dst v) w'→o.wpIn (Fw r) 0 P a w K Q)∧Le g w g' w'∧SR w0 g' H' w'∧VR g' w' t v∧Fr g H g' H':=by
 have fz:=gT hc
 obtain⟨it,ho,h1⟩:=yI (jF hc)
 have hv:=tC hr it (by rw[ho];simp[Op.operands]) x h1
 rw[hx]at hv
 obtain⟨t,H',hn,v,w',g',cy,h3⟩:=Jh (P:=P) (ty:=o.type) h hv hb
 refine⟨t,H',v,w',g',hn,fun K Q hk=>⟨fun _ _=>trivial,?_⟩,h3⟩
 rw[Oper.semAt_eq _ _ _ fz]
 have e:(execOp a.eval o).run P w=.ok (.value v) w':=by
  obtain⟨dst,op,ty,pos,after,guard⟩:=o
  simp only at ho;subst ho
  simp[execOp,cy]
 rw[e]
 exact hk
theorem jX {f:FuncId}{args:Array Value}(hf:dH P f=true):(callFunc f args).run P w=.ok (.enter f args) w:=by
 unfold dH at hf
 cases h:P.funcs[f]? with
 | none=>simp[h]at hf
 | some fn =>
  simp only[h,Bool.and_eq_true,bne_iff_ne,ne_eq]at hf
  obtain⟨c,hb⟩:=Option.isSome_iff_exists.1 hf.2
  simp[callFunc,h,hf.1,hb]
def yJ (r:Option Nat)(P:Program)(o:Oper)(a:Act)(K:Act→World→Prop):Ending→World→Prop:=fun e w'=>∃v,e=.returned v∧K (a.put o.dst v) w'
theorem upon_enter {r:Option Nat}{o:Oper}{f:FuncId}{args:Array Value}{K:Act→World→Prop}{Q:Exit→Act→World→Prop}(h:CallsIn (Fw none) 0 P f args w (yJ r P o a K)) :
  o.uponIn (Fw r) 0 P a K Q (.ok (.enter f args) w):=by
 rw[Oper.uponIn_enter]
 refine⟨fun h=>by simp[Fw]at h,(w6 h).mono fun e w' he=>?_⟩
 obtain⟨v,rfl,hk⟩:=he
 exact hk
theorem uV {mu:Bool}{op:Op}{f:Nat}{as:List X}(h:bQ P mu op=some (.call f as)) :
  ∃args iT,op=.call { callee:=.value (.func f),args:=args,argTypes:=iT }∧dH P f=true∧fQ args.toList=some as:=by
 cases op
 case call c =>
  obtain⟨callee,args,iT⟩:=c
  cases callee
  case value x =>
   cases x
   case func f' =>
    simp only[bQ]at h
    split at h
    ·rename_i hc
     simp only[Option.map_eq_some_iff]at h
     obtain⟨Qu,h1,h2⟩:=h
     cases h2
     exact⟨args,iT,rfl,hc,h1⟩
    ·split at h<;>cases h
   all_goals simp[bQ,bG]at h
  all_goals (simp only[bQ,Option.map_eq_some_iff]at h;obtain⟨_,_,h⟩:=h;cases h)
 all_goals (simp only[bQ,Option.map_eq_some_iff]at h;obtain⟨_,_,h⟩:=h;cases h)
theorem mL {mu:Bool}{op:Op}{x:X}{as:List X}(h:bQ P mu op=some (.bD x as)) :
  ∃t args iT,x=.r t∧op=.call { callee:=.value (.tmp t),args:=args,argTypes:=iT }∧fQ args.toList=some as:=by
 cases op
 case call c =>
  obtain⟨callee,args,iT⟩:=c
  cases callee
  case value x =>
   cases x
   case tmp t =>
    simp only[bQ,Option.map_eq_some_iff]at h
    obtain⟨Qu,h1,h2⟩:=h
    cases h2
    exact⟨t,args,iT,rfl,rfl,h1⟩
   case func f' =>
    simp only[bQ]at h
    split at h
    ·simp only[Option.map_eq_some_iff]at h
     obtain⟨Qu,h1,h2⟩:=h
     cases h2
    ·split at h<;>cases h
   all_goals simp[bQ,bG]at h
  all_goals (simp only[bQ,Option.map_eq_some_iff]at h;obtain⟨_,_,h⟩:=h;cases h)
 all_goals (simp only[bQ,Option.map_eq_some_iff]at h;obtain⟨_,_,h⟩:=h;cases h)
theorem BR {r:Option Nat}{mu:Bool}{o:Oper}{f:Nat}{as:List X}(hc:bQ P mu o.op=some (.call f as))(hr:gL g w R a (fg o.op.operands.toList)) :
  ∃args:List Value,bF g w (as.map (X.ev R)) args ∧
   ∀(K:Act→World→Prop) (Q:Exit→Act→World→Prop),dH P f=true→CallsIn (Fw none) 0 P f args.toArray w (yJ r P o a K)→o.wpIn (Fw r) 0 P a w K Q:=by
 have fz:=gT hc
 obtain⟨args,iT,ho,jY,h1⟩:=uV hc
 have hv:=fR (ρ:=a.eval) args.toList as h1 (tC (hr.sub fun t ht=>by
  simp only[fg,List.mem_filterMap]at ht ⊢
  obtain⟨x,hx,e⟩:=ht
  exact⟨x,by rw[ho];simp only[Op.operands,Call.operands];simp at hx;simp[hx],e⟩))
 refine⟨args.toList.map a.eval,hv,fun K Q _ hk=>⟨fun _ _=>trivial,?_⟩⟩
 rw[Oper.semAt_eq _ _ _ fz]
 have cy:(execOp a.eval o).run P w=.ok (.enter f (args.toList.map a.eval).toArray) w:=by
  have:=jX (P:=P) (w:=w) (args:=(args.toList.map a.eval).toArray) jY
  have e2:(args.toList.map a.eval).toArray=args.map a.eval:=by rw[←Array.toList_map]
  rw[e2]at this ⊢
  simp only[execOp,ho,resolve,Act.eval,Deferred.ofValue,invoke]
  simpa using this
 rw[cy]
 exact upon_enter hk
theorem yK {r:Option Nat}{mu:Bool}{o:Oper}{x:X}{f:Nat}{cs:List T}{as:List X}(hc:bQ P mu o.op=some (.bD x as))(hr:gL g w R a (fg o.op.operands.toList))(hx:x.ev R=.fn f cs) :
  ∃args:List Value,bF g w (as.map (X.ev R)++cs) args ∧
   ∀(K:Act→World→Prop) (Q:Exit→Act→World→Prop),dH P f=true→CallsIn (Fw none) 0 P f args.toArray w (yJ r P o a K)→o.wpIn (Fw r) 0 P a w K Q:=by
 have fz:=gT hc
 obtain⟨t,args,iT,rfl,ho,h1⟩:=mL hc
 have hv:=fR (ρ:=a.eval) args.toList as h1 (tC (hr.sub fun t ht=>by
  simp only[fg,List.mem_filterMap]at ht ⊢
  obtain⟨x,hx,e⟩:=ht
  exact⟨x,by rw[ho];simp only[Op.operands,Call.operands];simp at hx;simp[hx],e⟩))
 have hf:=hr t (by rw[ho];simp only[fg,List.mem_filterMap];exact⟨.tmp t,by simp[Op.operands,Call.operands],rfl⟩)
 simp only[X.ev]at hx
 rw[hx]at hf
 generalize Jt:a.tmps.getD t undef=vf at hf
 cases hf with
 | @fn _ _ vs hl uM =>
  refine⟨args.toList.map a.eval++vs.toList,hv.append ⟨by simp[hl],fun i t v ha hb=>uM i t v ha (by simpa using hb)⟩,fun K Q jY hk=>⟨fun _ _=>trivial,?_⟩⟩
  rw[Oper.semAt_eq _ _ _ fz]
  have cy:(execOp a.eval o).run P w=.ok (.enter f (args.toList.map a.eval++vs.toList).toArray) w:=by
   have:=jX (P:=P) (w:=w) (args:=(args.toList.map a.eval++vs.toList).toArray) jY
   have e2:(args.toList.map a.eval++vs.toList).toArray=args.map a.eval++vs:=by rw[←Array.toList_map];simp
   rw[e2]at this ⊢
   have e:a.eval (.tmp t)=.func (.func f) #[] vs:=Jt
   simp only[execOp,ho,resolve,e,Deferred.ofValue,invoke]
   simpa using this
  rw[cy]
  exact upon_enter hk
end
def mM:T→Option Nat
 | .ptr b _ | .map b=>some b
 | _=>none
def jZ (R:av)(y:It):Option Nat:=match y.o.d,y.o.op with
 | some d,.b (.alloc _)=>mM (R d)
 | some d,.b .zC=>mM (R d)
 | _,_=>none
def sO (g:Ctx)(N:Nat)(R:av)(H:af)(y:It):Prop :=
 (bO R y.o.g=false∧∀d,y.o.d=some d→R d=b0) ∨
 (bO R y.o.g=true∧∃d b,y.o.d=some d∧y.o.op=.b b∧(
  ((qT b=.pure∨qT b=.read)∧ar R H b=some (R d,H)) ∨
  (∃k z,b=.alloc z∧R d=.ptr k 0∧H[k]?=some (.cells z)∧g.φ k=none∧N≤k) ∨
  (∃k,b=.zC∧R d=.map k∧H[k]?=some (.map [])∧g.φ k=none∧N≤k)))
theorem sO.mono {g g':Ctx}{N:Nat}{R R':av}{H H':af}{y:It}(h:sO g N R H y)(hg:∀t∈mK y.o.g,R' t=R t)(hr:∀t∈zY y.o.op,R' t=R t)(hd:∀d,y.o.d=some d→R' d=R d)
  (Rw:∀d b,bO R y.o.g=true→y.o.d=some d→y.o.op=.b b→qT b=.read→ar R H b=some (R d,H)→ar R H' b=some (R d,H'))
  (vZ:∀k x,jZ R y=some k→H[k]?=some x→(∀e,x≠.tok e)→g.φ k=none→N≤k→H'[k]?=some x∧g'.φ k=none):sO g' N R' H' y:=by
 have hw:bO R' y.o.g=bO R y.o.g:=lz hg
 rcases h with⟨h1,h2⟩|⟨h1,d,b,h2,h3,h4⟩
 ·exact .inl ⟨hw▸h1,fun d e=>by rw[hd d e];exact h2 d e⟩
 ·refine .inr ⟨hw▸h1,d,b,h2,h3,?_⟩
  rw[hd d h2]
  rw[h3]at hr
  rcases h4 with⟨hk,he⟩|⟨k,z,rfl,e1,e2,e3,e4⟩|⟨k,rfl,e1,e2,e3,e4⟩
  ·refine .inl ⟨hk,?_⟩
   rw[qV (R:=R') (R':=R) hr]
   rcases hk with hk|hk
   ·exact(tv hk he).2 H'
   ·exact Rw d b h1 h2 h3 hk he
  ·have hm:=vZ k _ (by simp[jZ,h2,h3,e1,mM]) e2 (by simp) e3 e4
   exact .inr (.inl ⟨k,z,rfl,e1,hm.1,hm.2,e4⟩)
  ·have hm:=vZ k _ (by simp[jZ,h2,h3,e1,mM]) e2 (by simp) e3 e4
   exact .inr (.inr ⟨k,rfl,e1,hm.1,hm.2,e4⟩)
theorem qW (a:Act)(d:Option Nat)(v:Value)(t:Nat)(hd:∀e,d=some e→e<a.tmps.size):(a.put d v).tmps.getD t undef=if d=some t then v else a.tmps.getD t undef:=by
 cases d with
 | none=>simp[Act.put]
 | some d =>
  have aw:=hd d rfl
  simp only[Act.put]
  by_cases e:d=t
  ·subst e;simp[Array.getD_eq_getD_getElem?,aw]
  ·rw[if_neg (by simpa using e),Array.getD_eq_getD_getElem?,Array.getD_eq_getD_getElem?,Array.getElem?_setIfInBounds_ne e]
theorem qX (a:Act)(d:Option Nat)(v:Value):(a.put d v).tmps.size=a.tmps.size:=by cases d<;>simp[Act.put]
theorem jn (a:Act)(d:Option Nat)(v:Value):(a.put d v).defers=a.defers:=by cases d<;>simp[Act.put]
theorem cD {R:av}{d:Option Nat}{v:T}{t:Nat}(h:d≠some t):bC R d v t=R t:=by
 cases d with
 | none=>rfl
 | some d=>simp only[bC,oH];rw[if_neg];rintro rfl;exact h rfl
theorem iX {R:av}{v:T}{t:Nat}:bC R (some t) v t=v:=by simp[bC,oH]
theorem SR.Xl {w0 w:World}{g:Ctx}{H:af}(h:SR w0 g H w){x:B}(hx:(∃cs,x=.cells cs)∨∃es,x=.map es):SR w0 g (H++[x]) w:=by
 refine⟨h.size,h.jP,h.Bv,h.fresh,fun b y hy=>by have:=h.sH b y hy;simp;omega,fun t e y hy=>by have:=h.jj t e y hy;simp;omega,fun b y hy=>?_,h.qa,h.env⟩
 by_cases hb:b=H.length
 ·subst hb
  rw[fx]at hy
  have hn:=h.IU (b:=H.length) (Nat.le_refl _)
  cases hy
  rcases hx with⟨cs,rfl⟩|⟨es,rfl⟩<;>intro r o q hq<;>rw[hn]at hq<;>cases hq
 ·exact h.eg b y (cY hb hy)
theorem SR.drew {w0 w w':World}{g:Ctx}{H:af}(h:SR w0 g H w)(tr:Tr w w' gG iU)(hz:w'.heap.size=w.heap.size):SR w0 g H w'∧Le g w g w':=by
 have le:Le g w g w':=Le.gZ tr (fun _ _ h=>h) (fun _ _ h=>h) (fun _ _ _ h=>h) (fun _ _ hs=>hs.elim)
 refine⟨?_,le⟩
 exact h.step (fun _=>False) tr le (fun _ _ hs=>hs.elim) (fun _ hm=>hm.elim) (fun r o hr=>h.fresh r o (by omega)) h.sH h.jj (fun _ _ _=>rfl) (fun _ _ _ _=>⟨id,id⟩) (fun _ _ _ _=>rfl) (fun b x hx=>.inl ⟨id,hx⟩)
section
variable {P:Program} {w0 w:World} {g:Ctx} {H:af} {a:Act}
theorem w7 {r:Option Nat}{mu:Bool}{o:Oper}{z:List T}{k:Nat}(hm:yG o.op=true)(hc:bQ P mu o.op=some (.b (.alloc z)))(h:SR w0 g H w)(hk:H[k]?=some (.cells z))(hn:g.φ k=none) :
  ∃v w' g',(∀(K:Act→World→Prop) (Q:Exit→Act→World→Prop),K (a.put o.dst v) w'→o.wpIn (Fw r) 0 P a w K Q)∧Le g w g' w'∧SR w0 g' H w'∧VR g' w' (.ptr k 0) v∧∀b,g.φ b=none→b≠k→g'.φ b=none:=by
 obtain⟨dst,op,ty,pos,after,guard⟩:=o
 simp only at hm hc
 have hc:=jF hc
 unfold yG at hm
 split at hm
 ·rename_i t _
  simp only[bG,Option.map_eq_some_iff]at hc
  obtain⟨z',h1,h2⟩:=hc
  cases h2
  obtain⟨i,zv,h2,h3,h4⟩:=fS h1
  obtain⟨hv,ho⟩:=dL (g:=g) (w:=w) _ _ h4
  have tr:Tr w w gG iU:=Tr.refl w
  obtain⟨le,sr,fr⟩:=h.mut (c:=zv.cells) (ty:=t) (H':=H) (b:=k) tr rfl hk hn (fun b' x _ hx=>.inl hx) (Nat.le_refl _) (fun b' x hx _ _ _=>hx) (by simpa using hv.MX ho)
  refine⟨.pointer (some ⟨w.heap.size,0,none⟩),_,_,fun K Q hk=>⟨fun _ _=>trivial,?_⟩,le,sr,.ptr (r:=w.heap.size) (o:=0) (q:=zv.cells.size) (by simp[Ctx.at]),fun b hb bK=>by simp only[Ctx.at,Ctx.row];rw[if_neg bK];exact hb⟩
  rw[Oper.semAt_eq _ _ _ (by rintro c⟨⟩)]
  have cy:(execOp a.eval ⟨dst,.alloc t,ty,pos,after,guard⟩).run P w=.ok (.value (.pointer (some ⟨w.heap.size,0,none⟩))) (w.alloc (.cells zv.cells t)):=by
   simp[execOp,Instr.alloc,zeroValue,bu h2,h3,newVar,newRow]
  rw[cy]
  exact hk
 ·simp[bG]at hc
 ·cases hm
theorem BS {r:Option Nat}{mu:Bool}{o:Oper}{k:Nat}(hm:yG o.op=true)(hc:bQ P mu o.op=some (.b .zC))(h:SR w0 g H w)(hk:H[k]?=some (.map []))(hn:g.φ k=none) :
  ∃v w' g',(∀(K:Act→World→Prop) (Q:Exit→Act→World→Prop),K (a.put o.dst v) w'→o.wpIn (Fw r) 0 P a w K Q)∧Le g w g' w'∧SR w0 g' H w'∧VR g' w' (.map k) v∧∀b,g.φ b=none→b≠k→g'.φ b=none:=by
 obtain⟨dst,op,ty,pos,after,guard⟩:=o
 simp only at hm hc
 have hc:=jF hc
 unfold yG at hm
 split at hm
 ·simp[bG]at hc
 ·rename_i t _
  obtain⟨le,sr⟩:=h.Dy (H':=H) (b:=k) hk hn (fun b' x _ hx=>hx) (Nat.le_refl _)
  refine⟨.map (some w.heap.size),_,_,fun K Q hk=>⟨fun _ _=>trivial,?_⟩,le,sr,.map (r:=w.heap.size) (o:=0) (q:=0) (by simp[Ctx.at]),fun b hb bK=>by simp only[Ctx.at,Ctx.row];rw[if_neg bK];exact hb⟩
  rw[Oper.semAt_eq _ _ _ (by rintro c⟨⟩)]
  have cy:(execOp a.eval ⟨dst,.makeMap t none,ty,pos,after,guard⟩).run P w=.ok (.value (.map (some w.heap.size))) (w.alloc (.map #[] 0)):=by
   simp[execOp,Instr.makeMap]
  rw[cy]
  exact hk
 ·cases hm
end
theorem Fr.ext (g:Ctx)(H l:af):Fr g H g (H++l):=⟨by simp,fun b x hx _ hn=>⟨lX hx,hn⟩⟩
structure Dr (P:Program)(n:Nat)(ops:Array Oper)(mu:Nat→Bool)(w0:World)(df:List Deferred)(mk:T)(g0:Ctx)(ws:World)(H0:af)
  (pre:List It) (L:Array Bool) (g:Ctx) (R:av) (H:af) (a:Act) (w:World):Prop where
 yL:L.size=ops.size
 cmp:∀y∈pre,∃o,ops[y.i]?=some o∧(∃st,fJ P n ops (mu y.i) o st=some y.o)∧y.ts=tmpsOf o y.o.op y.o.g
 rd:∀y∈pre,∀z∈pre,z.early=true→∀d,z.o.d=some d→d∈y.ts→((eX ops.toList []).getD y.i 0).testBit z.i=true
 dd:∀y∈pre,∀z∈pre,∀d,y.o.d=some d→z.o.d=some d→y.i=z.i
 kl:∀y∈pre,y.early=true→∀o,ops[y.i]?=some o→HS y.o=.make→yG o.op=true
 uniq:∀y∈pre,∀z∈pre,y.i=z.i→y=z
 sP:∀y∈pre,∀o,ops[y.i]?=some o→∀j∈cC o,j<y.i
 closed:∀i o,ops[i]?=some o→L.getD i false=true→∀j∈cC o,j<i∧L.getD j false=true
 sub:∀i,L.getD i false=true→∃y∈pre,y.i=i
 qY:∀y∈pre,y.early=false→L.getD y.i false=true
 sr:SR w0 g H w
 le:Le g0 ws g w
 fr:Fr g0 H0 g H
 v7:a.tmps.size=n
 uW:∀t,t<n→(∀y∈pre,L.getD y.i false=false→y.o.d≠some t)→VR g w (R t) (a.tmps.getD t undef)
 fE:∀y∈pre,L.getD y.i false=false→sO g H0.length R H y
 inj:∀y∈pre,∀z∈pre,L.getD y.i false=false→L.getD z.i false=false→y.i≠z.i→∀k,jZ R y=some k→jZ R z≠some k
 Lz:a.defers=df
 LA:R n=mk
section
variable {P:Program} {n:Nat} {ops:Array Oper} {mu:Nat→Bool} {w0 w ws:World} {df:List Deferred} {mk:T} {g g0:Ctx} {H H0 H':af} {pre:List It} {L:Array Bool} {R:av} {a:Act} {r:Option Nat}
theorem lY {i:Nat}(h:i∈Region.ready .any ops L):L.getD i false=false∧∃o,ops[i]?=some o∧∀j∈cC o,L.getD j false=true:=by
 obtain⟨h1,o,h2,h3⟩:=mem_ready.1 h
 refine⟨?_,o,h2,fun j hj=>?_⟩
 ·cases hi:L[i]? with
  | none=>simp[Array.getD_eq_getD_getElem?,hi]at h1
  | some b=>simp[Array.getD_eq_getD_getElem?,hi]at h1 ⊢;exact h1
 ·simp only[cC,List.mem_map,List.mem_filter]at hj
  obtain⟨e,⟨he,hb⟩,rfl⟩:=hj
  exact h3 e (by simpa using he) hb
theorem Dr.bit (h:Dr P n ops mu w0 df mk g0 ws H0 pre L g R H a w){i:Nat}{o:Oper}{t:Nat}(ho:ops[i]?=some o)(hp:∀j∈cC o,j<i∧L.getD j false=true)
  (hb:((eX ops.toList []).getD i 0).testBit t=true):L.getD t false=true :=
 wZ (D:=fun i=>L.getD i false=true) h.closed i o t ho hp hb
theorem dI {i j:Nat}(hi:i<L.size):(L.setIfInBounds i true).getD j false=if i=j then true else L.getD j false:=by
 by_cases e:i=j
 ·subst e;simp[Array.getD_eq_getD_getElem?,hi]
 ·rw[if_neg e,Array.getD_eq_getD_getElem?,Array.getD_eq_getD_getElem?,Array.getElem?_setIfInBounds_ne e]
theorem gN {o:Oper}{y:It}(h:y.ts=tmpsOf o y.o.op y.o.g):(∀t∈mK y.o.g,t∈y.ts)∧(∀t∈zY y.o.op,t∈y.ts)∧∀t∈fg o.op.operands.toList,t∈y.ts:=by
 rw[h];unfold tmpsOf
 exact⟨fun t ht=>by simp[ht],fun t ht=>by simp[ht],fun t ht=>by simp[ht]⟩
theorem Dr.look (h:Dr P n ops mu w0 df mk g0 ws H0 pre L g R H a w){i:Nat}{o:Oper}{ts:List Nat}(ho:ops[i]?=some o)(hp:∀j∈cC o,j<i∧L.getD j false=true)(hn:∀t∈ts,t<n)
  (hz:∀z∈pre,z.early=true→∀d,z.o.d=some d→d∈ts→((eX ops.toList []).getD i 0).testBit z.i=true):gL g w R a ts:=by
 intro t ht
 refine h.uW t (hn t ht) fun z qm hu hd=>?_
 cases he:z.early with
 | false=>rw[h.qY z qm he]at hu;cases hu
 | true=>rw[h.bit ho hp (hz z qm he t hd ht)]at hu;cases hu
theorem Dr.late (h:Dr P n ops mu w0 df mk g0 ws H0 pre L g R H a w){y:It}(hy:y∈pre)(hr:y.i∈Region.ready .any ops L) :
  ∃v w' g',(∀(K:Act→World→Prop) (Q:Exit→Act→World→Prop),K (a.put y.o.d v) w'→wpOpIn (Fw r) 0 P ops Q y.i K a w) ∧
   Dr P n ops mu w0 df mk g0 ws H0 pre (L.setIfInBounds y.i true) g' R H (a.put y.o.d v) w':=by
 obtain⟨Nn,o,ho,pc⟩:=lY hr
 obtain⟨o',mY,⟨st,fG⟩,CV⟩:=h.cmp y hy
 rw[ho]at mY;cases mY
 obtain⟨op,gd,Qv,hgd,No,Xm,HT⟩:=bB fG
 have hd:y.o.d=o.dst:=by rw[No]
 have Rx:y.o.op=op:=by rw[No]
 have Xn:y.o.g=gd:=by rw[No]
 obtain⟨ht1,V1,ht3⟩:=gN CV
 have hp:∀j∈cC o,j<y.i∧L.getD j false=true:=fun j hj=>⟨h.sP y hy o ho j hj,pc j hj⟩
 have qj:gL g w R a y.ts:=h.look ho hp (fun t ht=>Xm t (by rw[CV,Rx,Xn]at ht;exact ht)) (h.rd y hy)
 have V2:Region.wanted o (yielded ops a.tmps)=bO R y.o.g:=by
  rw[Xn];exact pb hgd h.v7 (fun t ht=>Xm t (by simp[tmpsOf,ht])) (qj.sub (by rw[←Xn];exact ht1))
 have lx:y.i<L.size:=by rw[h.yL];exact(Array.getElem?_eq_some_iff.1 ho).1
 have Xo:∀e,y.o.d=some e→e<a.tmps.size:=fun e he=>by rw[h.v7];exact HT e (hd▸he)
 have dQ:∀v w' g',Le g w g' w'→SR w0 g' H w'→(∀d,y.o.d=some d→VR g' w' (R d) v)→Fr g0 H0 g' H→(∀z∈pre,L.getD z.i false=false→z.i≠y.i→sO g' H0.length R H z) →
   Dr P n ops mu w0 df mk g0 ws H0 pre (L.setIfInBounds y.i true) g' R H (a.put y.o.d v) w':=by
  intro v w' g' le sr hv fr Ry
  refine { yL:=(by simp[h.yL]),cmp:=h.cmp,rd:=h.rd,dd:=h.dd,kl:=h.kl,uniq:=h.uniq,sP:=h.sP,closed:=?_,sub:=?_,qY:=?_,sr:=sr,le:=h.le.trans le,fr:=fr,v7:=(by rw[qX];exact h.v7),uW:=?_,fE:=?_,inj:=?_,Lz:=(by rw[jn];exact h.Lz),LA:=h.LA }
  ·intro i oi yM yN j hj
   rw[dI lx]at yN ⊢
   by_cases e:y.i=i
   ·subst e;rw[ho]at yM;cases yM
    obtain⟨h1,h2⟩:=hp j hj
    exact⟨h1,by split<;>simp[h2]⟩
   ·rw[if_neg e]at yN
    obtain⟨h1,h2⟩:=h.closed i oi yM yN j hj
    exact⟨h1,by split<;>simp[h2]⟩
  ·intro i yN
   rw[dI lx]at yN
   by_cases e:y.i=i
   ·exact⟨y,hy,e⟩
   ·rw[if_neg e]at yN;exact h.sub i yN
  ·intro z hz he
   rw[dI lx]
   split
   ·rfl
   ·exact h.qY z hz he
  ·intro t ht gI
   rw[qW _ _ _ _ Xo]
   split
   ·rename_i e;exact hv t e
   ·rename_i e
    refine(h.uW t ht fun z hz hu qo=>?_).mono le
    by_cases ez:y.i=z.i
    ·rw[h.uniq y hy z hz ez]at e;exact e qo
    ·exact gI z hz (by rw[dI lx,if_neg ez];exact hu) qo
  ·intro z hz hu
   rw[dI lx]at hu
   by_cases ez:y.i=z.i
   ·rw[if_pos ez]at hu;cases hu
   ·rw[if_neg ez]at hu;exact Ry z hz hu (Ne.symm ez)
  ·intro z hz z' qm hu DU
   rw[dI lx]at hu DU
   by_cases ez:y.i=z.i
   ·rw[if_pos ez]at hu;cases hu
   ·by_cases ez':y.i=z'.i
    ·rw[if_pos ez']at DU;cases DU
    ·rw[if_neg ez]at hu;rw[if_neg ez']at DU;exact h.inj z hz z' qm hu DU
 have DV:∀g',Fr g H g' H→∀z∈pre,L.getD z.i false=false→z.i≠y.i→sO g' H0.length R H z:=fun g' fr z hz hu _ =>
  (h.fE z hz hu).mono (fun _ _=>rfl) (fun _ _=>rfl) (fun _ _=>rfl) (fun _ _ _ _ _ _ e=>e) (fun k x _ hx Jw hn _=>fr.2 k x hx Jw hn)
 rcases h.fE y hy Nn with⟨hw,hu⟩|⟨hw,d,b,pO,kO,DW⟩
 ·refine⟨undef,w,g,fun K Q hk=>?_,dQ undef w g (.refl _ _) h.sr (fun d e=>by rw[hu d e];exact hO) h.fr (DV g (.refl _ _))⟩
  unfold wpOpIn
  simp only[ho,V2,hw]
  rw[hd]at hk
  exact⟨fun _ _=>trivial,hk⟩
 ·have Np:bQ P (mu y.i) o.op=some (.b b):=by rw[←kO,Rx];exact Qv
  rcases DW with⟨hk,he⟩|⟨k,z,rfl,e1,e2,e3,e4⟩|⟨k,rfl,e1,e2,e3,e4⟩
  ·obtain⟨v,w',g',hs,le,sr,hv,fr⟩:=DS (r:=r) Np h.sr (qj.sub ht3) he
   refine⟨v,w',g',fun K Q bL=>?_,dQ v w' g' le sr (fun d' e=>by rw[pO]at e;cases e;exact hv) (h.fr.trans fr) (DV g' fr)⟩
   unfold wpOpIn
   simp only[ho,V2,hw,if_true]
   exact hs K Q (by rw[←hd];exact bL)
  ·-- a variable ab0 jW place
   have Nq:y.early=true:=by cases he:y.early with|true=>rfl|false=>rw[h.qY y hy he]at Nn;cases Nn
   have vZ:=h.kl y hy Nq o ho (by simp[HS,kO,pO,qT])
   obtain⟨v,w',g',hs,le,sr,hv,hφ⟩:=w7 (r:=r) (a:=a) vZ Np h.sr e2 e3
   have Xp:jZ R y=some k:=by simp[jZ,pO,kO,e1,mM]
   refine⟨v,w',g',fun K Q bL=>?_,dQ v w' g' le sr (fun d' e=>by rw[pO]at e;cases e;rw[e1];exact hv) ⟨h.fr.1,fun b x hx Jw hb=>?_⟩ fun z' qm DU bK=>?_⟩
   ·unfold wpOpIn
    simp only[ho,V2,hw,if_true]
    exact hs K Q (by rw[←hd];exact bL)
   ·obtain⟨f1,f2⟩:=h.fr.2 b x hx Jw hb
    exact⟨f1,hφ b f2 (by have:=(List.getElem?_eq_some_iff.1 hx).1;omega)⟩
   ·exact(h.fE z' qm DU).mono (fun _ _=>rfl) (fun _ _=>rfl) (fun _ _=>rfl) (fun _ _ _ _ _ _ e=>e) fun k' x qJ hx _ hn _ =>
     ⟨hx,hφ k' hn (by rintro rfl;exact h.inj y hy z' qm Nn DU (Ne.symm bK) k' Xp qJ)⟩
  ·have Nq:y.early=true:=by cases he:y.early with|true=>rfl|false=>rw[h.qY y hy he]at Nn;cases Nn
   have vZ:=h.kl y hy Nq o ho (by simp[HS,kO,pO,qT])
   obtain⟨v,w',g',hs,le,sr,hv,hφ⟩:=BS (r:=r) (a:=a) vZ Np h.sr e2 e3
   have Xp:jZ R y=some k:=by simp[jZ,pO,kO,e1,mM]
   refine⟨v,w',g',fun K Q bL=>?_,dQ v w' g' le sr (fun d' e=>by rw[pO]at e;cases e;rw[e1];exact hv) ⟨h.fr.1,fun b x hx Jw hb=>?_⟩ fun z' qm DU bK=>?_⟩
   ·unfold wpOpIn
    simp only[ho,V2,hw,if_true]
    exact hs K Q (by rw[←hd];exact bL)
   ·obtain⟨f1,f2⟩:=h.fr.2 b x hx Jw hb
    exact⟨f1,hφ b f2 (by have:=(List.getElem?_eq_some_iff.1 hx).1;omega)⟩
   ·exact(h.fE z' qm DU).mono (fun _ _=>rfl) (fun _ _=>rfl) (fun _ _=>rfl) (fun _ _ _ _ _ _ e=>e) fun k' x qJ hx _ hn _ =>
     ⟨hx,hφ k' hn (by rintro rfl;exact h.inj y hy z' qm Nn DU (Ne.symm bK) k' Xp qJ)⟩
end
structure Hd (P:Program)(n:Nat)(ops:Array Oper)(mu:Nat→Bool)(pre:List It)(x:It)(o:Oper):Prop where
 ho:ops[x.i]?=some o
 co:fJ P n ops (mu x.i) o x.o.Bh=some x.o
 ts:x.ts=tmpsOf o x.o.op x.o.g
 st:x.early=false→x.o.Bh=jm ((eX ops.toList []).getD x.i 0) pre
 pred:∀j∈cC o,j<x.i∧∃z∈pre,z.i=j
 beh:∀z∈pre,z.early=true∨((eX ops.toList []).getD x.i 0).testBit z.i=true
 ne:∀z∈pre,z.i≠x.i
 dst:∀d,x.o.d=some d→(∀z∈pre,z.o.d≠some d∧(d∈z.ts→x.early=false∧((eX ops.toList []).getD x.i 0).testBit z.i=true))∧d∉x.ts
 Xq:∀z∈pre,∀d,z.o.d=some d→d∈x.ts→((eX ops.toList []).getD x.i 0).testBit z.i=true
 kl:x.early=true→HS x.o≠.Nl∧(HS x.o=.make→yG o.op=true)
theorem BT {P:Program}{n:Nat}{ops:Array Oper}{mu:Nat→Bool}{pre:List It}{y:Nat×Bool}{x:It}(h:yH P n ops mu ((eX ops.toList []).getD y.1 0) pre y=some x):∃o,Hd P n ops mu pre x o:=by
 unfold yH at h
 generalize HP:(eX ops.toList []).getD y.1 0=bs at h
 cases ho:ops[y.1]? with
 | none=>simp[ho]at h
 | some o =>
  rw[ho]at h;dsimp only at h
  cases hc:fJ P n ops (mu y.1) o (if y.2=true then []else jm bs pre)with
  | none=>rw[hc]at h;cases h
  | some o' =>
   rw[hc]at h;dsimp only at h
   split at h
   ·rename_i hk
    cases h
    subst HP
    have dD:o'.Bh=if y.2=true then []else jm ((eX ops.toList []).getD y.1 0) pre:=by
     obtain⟨op,gd,_,_,e,_⟩:=bB hc;rw[e]
    simp only[DQ,Bool.and_eq_true,List.all_eq_true,decide_eq_true_eq,List.any_eq_true,beq_iff_eq,Bool.or_eq_true,bne_iff_ne,ne_eq,Bool.not_eq_true']at hk
    obtain⟨⟨⟨⟨⟨k1,k2⟩,k3⟩,k4⟩,k5⟩,k6⟩:=hk
    refine⟨o,ho,by rw[dD];exact hc,rfl,fun he=>by simp only at he;rw[dD,he];rfl,k1,k2,k3,fun d hd=>?_,fun z hz d hd ht=>?_,fun he=>?_⟩
    ·simp only at hd
     rw[hd]at k4
     simp only[List.all_eq_true,Bool.and_eq_true,bne_iff_ne,ne_eq,Bool.or_eq_true,Bool.not_eq_true',List.contains_eq_mem,decide_eq_false_iff_not,decide_eq_true_eq]at k4
     exact⟨fun z hz=>⟨(k4.1 z hz).1,fun ht=>((k4.1 z hz).2.resolve_left (fun hn=>hn ht))⟩,k4.2⟩
    ·have:=k5 z hz
     rw[hd]at this
     simp only[Bool.or_eq_true,Bool.not_eq_true',List.contains_eq_mem,decide_eq_false_iff_not]at this
     exact this.resolve_left (fun hn=>hn ht)
    ·rcases k6 with k6|k6
     ·have CT:y.2=true:=he
      rw[CT]at k6;cases k6
     ·exact⟨k6.1,fun hm=>k6.2.resolve_left (fun hn=>hn hm)⟩
   ·cases h
theorem ka {P:Program}{n:Nat}{ops:Array Oper}{mu:Nat→Bool}{pre:List It}{y:Nat×Bool}{ord:List (Nat×Bool)}{jW:List It}(h:dX P n ops mu (eX ops.toList []) pre (y :: ord)=some jW) :
  ∃x l o,jW=x :: l∧Hd P n ops mu pre x o∧dX P n ops mu (eX ops.toList []) (pre++[x]) ord=some l:=by
 simp only[dX]at h
 split at h
 ·rename_i x hx
  simp only[Option.map_eq_some_iff]at h
  obtain⟨l,h1,rfl⟩:=h
  obtain⟨o,ho⟩:=BT hx
  exact⟨x,l,o,rfl,ho,h1⟩
 ·cases h
theorem cZ {P:Program}{n:Nat}{ops:Array Oper}{mu:Nat→Bool}:∀(ord:List (Nat×Bool)) (pre jW:List It),dX P n ops mu (eX ops.toList []) pre ord=some jW→∀i,i<ops.size→∃y∈pre++jW,y.i=i
 | [],pre,jW,h,i,hi=>by
  simp only[dX]at h
  split at h
  ·rename_i hk
   cases h
   simp only[List.all_eq_true,List.mem_range,List.any_eq_true,beq_iff_eq]at hk
   simpa using hk i hi
  ·cases h
 | y :: ord,pre,jW,h,i,hi=>by
  obtain⟨x,l,o,rfl,_,h2⟩:=ka h
  simpa using cZ ord (pre++[x]) l h2 i hi
theorem dB {P:Program}{n:Nat}{ops:Array Oper}{mu:Nat→Bool}:∀(ord:List (Nat×Bool)) (pre jW:List It),dX P n ops mu (eX ops.toList []) pre ord=some jW→∀y∈jW,(∃o,ops[y.i]?=some o∧(∀j∈cC o,j<y.i))∧∀z∈pre,z.early=true∨((eX ops.toList []).getD y.i 0).testBit z.i=true
 | [],pre,jW,h,y,hy=>by
  simp only[dX]at h
  split at h
  ·cases h;cases hy
  ·cases h
 | u :: ord,pre,jW,h,y,hy=>by
  obtain⟨x,l,o,rfl,h1,h2⟩:=ka h
  rcases List.mem_cons.1 hy with rfl|hy
  ·exact⟨⟨o,h1.ho,fun j hj=>(h1.pred j hj).1⟩,h1.beh⟩
  ·obtain⟨h3,h4⟩:=dB ord (pre++[x]) l h2 y hy
   exact⟨h3,fun z hz=>h4 z (by simp[hz])⟩
theorem qZ {b:Nat}{y:It}{d:Nat}{op:Bo}:∀(pre:List It),y∈pre→y.early=true→y.o.d=some d→y.o.op=.b op→qT op=.read→b.testBit y.i=false→⟨d,op,y.o.g⟩∈jm b pre
 | [],h,_,_,_,_,_=>by cases h
 | z :: pre,h,h1,h2,h3,h4,h5=>by
  rcases List.mem_cons.1 h with rfl|h
  ·simp[jm,h1,h2,h3,h4,h5]
  ·have ih:=qZ pre h h1 h2 h3 h4 h5
   simp only[jm]
   split
   ·split
    ·exact List.mem_cons_of_mem _ ih
    ·exact ih
   ·exact ih
theorem hU {R R':av}{y:It}(h:∀d,y.o.d=some d→R' d=R d):jZ R' y=jZ R y:=by
 unfold jZ
 split
 ·rename_i d z h1 h2;simp only[h1,h2,h d h1]
 ·rename_i d h1 h2;simp only[h1,h2,h d h1]
 ·rfl
theorem sO.lt {g:Ctx}{N:Nat}{R:av}{H:af}{y:It}(h:sO g N R H y){k:Nat}(hm:jZ R y=some k):k<H.length:=by
 unfold jZ at hm
 rcases h with⟨_,h2⟩|⟨_,d,b,h2,h3,h4⟩
 ·split at hm
  ·rename_i d z h1 _;rw[h2 d h1]at hm;cases hm
  ·rename_i d h1 _;rw[h2 d h1]at hm;cases hm
  ·cases hm
 ·rw[h2,h3]at hm
  rcases h4 with⟨hk,he⟩|⟨k',z,rfl,e1,e2,e3,e4⟩|⟨k',rfl,e1,e2,e3,e4⟩
  ·cases b<;>simp[qT]at hk hm
  ·simp only[e1,mM,Option.some.injEq]at hm;subst hm;exact(List.getElem?_eq_some_iff.1 e2).1
  ·simp only[e1,mM,Option.some.injEq]at hm;subst hm;exact(List.getElem?_eq_some_iff.1 e2).1
section
variable {P:Program} {n:Nat} {ops:Array Oper} {mu:Nat→Bool} {w0 w w' ws:World} {df:List Deferred} {mk:T} {g g' g0:Ctx} {H H0 H':af} {pre:List It} {L:Array Bool} {R:av} {a:Act} {r:Option Nat} {x:It} {o:Oper}
theorem Dr.m4 (h:Dr P n ops mu w0 df mk g0 ws H0 pre L g R H a w)(hd:Hd P n ops mu pre x o):L.getD x.i false=false:=by
 cases e:L.getD x.i false with
 | false=>rfl
 | true=>obtain⟨y,hy,e⟩:=h.sub x.i e;exact absurd e (hd.ne y hy)
theorem bf {α:Type}{y x:α}{l:List α}(h:y∈l++[x]):y∈l∨y=x:=by simpa using h
theorem Dr.take (h:Dr P n ops mu w0 df mk g0 ws H0 pre L g R H a w)(hd:Hd P n ops mu pre x o)(he:x.early=true){t:T}(hp:sO g H0.length (bC R x.o.d t) H' x)
  (hH:H'=H∨∃B,H'=H++[B]∧((∃cs,B=.cells cs)∨∃es,B=.map es)) (hm:∀k,jZ (bC R x.o.d t) x=some k→H.length≤k):Dr P n ops mu w0 df mk g0 ws H0 (pre++[x]) L g (bC R x.o.d t) H' a w:=by
 have DX:=h.m4 hd
 have fz:∀t:T,x.o.d≠some n:=fun _ e=>by
  obtain⟨op,gd,_,_,No,_,HT⟩:=bB hd.co
  have V3:x.o.d=o.dst:=by rw[No]
  exact Nat.lt_irrefl n (HT n (V3▸e))
 have CV:∀z∈pre,∀u∈z.ts,bC R x.o.d t u=R u:=fun z hz u hu=>cD fun e=>by
  obtain⟨h1,_⟩:=((hd.dst u e).1 z hz).2 hu
  rw[he]at h1;cases h1
 have CW:∀z∈pre,∀d,z.o.d=some d→bC R x.o.d t d=R d:=fun z hz d qo=>cD fun e=>((hd.dst d e).1 z hz).1 qo
 have Xr:∃l,H'=H++l:=by
  rcases hH with rfl|⟨B,rfl,_⟩
  ·exact⟨[],by simp⟩
  ·exact⟨[B],rfl⟩
 obtain⟨l,hl⟩:=Xr
 have hpz:∀z∈pre,L.getD z.i false=false→sO g H0.length (bC R x.o.d t) H' z:=fun z hz hu=>by
  obtain⟨oz,_,_,Xs⟩:=h.cmp z hz
  obtain⟨t1,t2,_⟩:=gN Xs
  refine(h.fE z hz hu).mono (fun u hu=>CV z hz u (t1 u hu)) (fun u hu=>CV z hz u (t2 u hu)) (CW z hz) (fun d b _ _ _ hk e=>?_) (fun k y _ hy _ hn _=>?_)
  ·subst hl;exact(tw hk e).2 l
  ·subst hl;exact⟨lX hy,hn⟩
 refine { yL:=h.yL,cmp:=?_,rd:=?_,dd:=?_,kl:=?_,uniq:=?_,sP:=?_,closed:=h.closed,sub:=fun i hi=>?_,qY:=?_,sr:=?_,le:=h.le,fr:=?_,v7:=h.v7,uW:=?_,fE:=?_,inj:=?_,Lz:=h.Lz,LA:=(by rw[cD (fz t)];exact h.LA) }
 ·intro y hy
  replace hy:=bf hy;rcases hy with hy|rfl
  ·exact h.cmp y hy
  ·exact⟨o,hd.ho,⟨_,hd.co⟩,hd.ts⟩
 ·intro y hy z hz Rz d qo Nr
  replace hy:=bf hy;rcases hy with hy|rfl
  ·replace hz:=bf hz;rcases hz with hz|rfl
   ·exact h.rd y hy z hz Rz d qo Nr
   ·obtain⟨h1,_⟩:=((hd.dst d qo).1 y hy).2 Nr
    rw[he]at h1;cases h1
  ·replace hz:=bf hz;rcases hz with hz|rfl
   ·exact hd.Xq z hz d qo Nr
   ·exact absurd Nr (hd.dst d qo).2
 ·intro y hy z hz d Jx qo
  replace hy:=bf hy;rcases hy with hy|rfl
  ·replace hz:=bf hz;rcases hz with hz|rfl
   ·exact h.dd y hy z hz d Jx qo
   ·exact absurd Jx ((hd.dst d qo).1 y hy).1
  ·replace hz:=bf hz;rcases hz with hz|rfl
   ·exact absurd qo ((hd.dst d Jx).1 z hz).1
   ·rfl
 ·intro y hy zZ o' mY
  replace hy:=bf hy;rcases hy with hy|rfl
  ·exact h.kl y hy zZ o' mY
  ·rw[hd.ho]at mY;cases mY;exact(hd.kl zZ).2
 ·intro y hy z hz e
  replace hy:=bf hy;rcases hy with hy|rfl
  ·replace hz:=bf hz;rcases hz with hz|rfl
   ·exact h.uniq y hy z hz e
   ·exact absurd e (hd.ne y hy)
  ·replace hz:=bf hz;rcases hz with hz|rfl
   ·exact absurd e.symm (hd.ne z hz)
   ·rfl
 ·intro y hy o' mY j hj
  replace hy:=bf hy;rcases hy with hy|rfl
  ·exact h.sP y hy o' mY j hj
  ·rw[hd.ho]at mY;cases mY;exact(hd.pred j hj).1
 ·obtain⟨y,hy,e⟩:=h.sub i hi
  exact⟨y,by simp[hy],e⟩
 ·intro y hy zZ
  replace hy:=bf hy;rcases hy with hy|rfl
  ·exact h.qY y hy zZ
  ·rw[he]at zZ;cases zZ
 ·rcases hH with rfl|⟨B,rfl,hB⟩
  ·exact h.sr
  ·exact h.sr.Xl hB
 ·subst hl;exact h.fr.trans (Fr.ext g H l)
 ·intro u hu gI
  rw[cD (gI x (by simp) DX)]
  exact h.uW u hu fun y hy qb=>gI y (by simp[hy]) qb
 ·intro y hy qb
  replace hy:=bf hy;rcases hy with hy|rfl
  ·exact hpz y hy qb
  ·exact hp
 ·intro y hy z hz qb wO bK k hk kW
  replace hy:=bf hy;rcases hy with hy|rfl
  ·rw[hU (CW y hy)]at hk
   replace hz:=bf hz;rcases hz with hz|rfl
   ·rw[hU (CW z hz)]at kW
    exact h.inj y hy z hz qb wO bK k hk kW
   ·have h1:=(h.fE y hy qb).lt hk
    have h2:=hm k kW
    omega
  ·replace hz:=bf hz;rcases hz with hz|rfl
   ·rw[hU (CW z hz)]at kW
    have h1:=(h.fE z hz wO).lt kW
    have h2:=hm k hk
    omega
   ·exact bK rfl
theorem Dr.both (h:Dr P n ops mu w0 df mk g0 ws H0 pre L g R H a w)(hd:Hd P n ops mu pre x o)(he:x.early=false)(hp:∀j∈cC o,L.getD j false=true){t:T}{v:Value}(le:Le g w g' w')(sr:SR w0 g' H' w')(hv:VR g' w' t v)(fr:Fr g H g' H')
  (hs:∀y∈pre,L.getD y.i false=false→∀d b,bO R y.o.g=true→y.o.d=some d→y.o.op=.b b→qT b=.read→ar R H b=some (R d,H)→ar R H' b=some (R d,H')) :
  Dr P n ops mu w0 df mk g0 ws H0 (pre++[x]) (L.setIfInBounds x.i true) g' (bC R x.o.d t) H' (a.put x.o.d v) w':=by
 have lx:x.i<L.size:=by rw[h.yL];exact(Array.getElem?_eq_some_iff.1 hd.ho).1
 have VW:∀j∈cC o,j<x.i∧L.getD j false=true:=fun j hj=>⟨(hd.pred j hj).1,hp j hj⟩
 obtain⟨op,gd,Qv,hgd,No,Xm,HT⟩:=bB hd.co
 have V3:x.o.d=o.dst:=by rw[No]
 have Xo:∀e,x.o.d=some e→e<a.tmps.size:=fun e h1=>by rw[h.v7];exact HT e (V3▸h1)
 have CV:∀z∈pre,L.getD z.i false=false→∀u∈z.ts,bC R x.o.d t u=R u:=fun z hz hu u hut=>cD fun e=>by
  obtain⟨_,h2⟩:=((hd.dst u e).1 z hz).2 hut
  rw[h.bit hd.ho VW h2]at hu;cases hu
 have CW:∀z∈pre,∀d,z.o.d=some d→bC R x.o.d t d=R d:=fun z hz d qo=>cD fun e=>((hd.dst d e).1 z hz).1 qo
 refine { yL:=(by simp[h.yL]),cmp:=?_,rd:=?_,dd:=?_,kl:=?_,uniq:=?_,sP:=?_,closed:=?_,sub:=?_,qY:=?_,sr:=sr,le:=h.le.trans le,fr:=h.fr.trans fr,v7:=(by rw[qX];exact h.v7),uW:=?_,fE:=?_,inj:=?_,Lz:=(by rw[jn];exact h.Lz),LA:=(by rw[cD (fun e=>Nat.lt_irrefl n (HT n (V3▸e)))];exact h.LA) }
 ·intro y hy
  replace hy:=bf hy;rcases hy with hy|rfl
  ·exact h.cmp y hy
  ·exact⟨o,hd.ho,⟨_,hd.co⟩,hd.ts⟩
 ·intro y hy z hz Rz d qo Nr
  replace hz:=bf hz;rcases hz with hz|rfl
  ·replace hy:=bf hy;rcases hy with hy|rfl
   ·exact h.rd y hy z hz Rz d qo Nr
   ·exact hd.Xq z hz d qo Nr
  ·rw[he]at Rz;cases Rz
 ·intro y hy z hz d Jx qo
  replace hy:=bf hy;rcases hy with hy|rfl
  ·replace hz:=bf hz;rcases hz with hz|rfl
   ·exact h.dd y hy z hz d Jx qo
   ·exact absurd Jx ((hd.dst d qo).1 y hy).1
  ·replace hz:=bf hz;rcases hz with hz|rfl
   ·exact absurd qo ((hd.dst d Jx).1 z hz).1
   ·rfl
 ·intro y hy zZ o' mY
  replace hy:=bf hy;rcases hy with hy|rfl
  ·exact h.kl y hy zZ o' mY
  ·rw[he]at zZ;cases zZ
 ·intro y hy z hz e
  replace hy:=bf hy;rcases hy with hy|rfl
  ·replace hz:=bf hz;rcases hz with hz|rfl
   ·exact h.uniq y hy z hz e
   ·exact absurd e (hd.ne y hy)
  ·replace hz:=bf hz;rcases hz with hz|rfl
   ·exact absurd e.symm (hd.ne z hz)
   ·rfl
 ·intro y hy o' mY j hj
  replace hy:=bf hy;rcases hy with hy|rfl
  ·exact h.sP y hy o' mY j hj
  ·rw[hd.ho]at mY;cases mY;exact(hd.pred j hj).1
 ·intro i oi yM yN j hj
  rw[dI lx]at yN ⊢
  by_cases e:x.i=i
  ·subst e
   rw[hd.ho]at yM;cases yM
   obtain⟨h1,h2⟩:=VW j hj
   exact⟨h1,by split<;>simp[h2]⟩
  ·rw[if_neg e]at yN
   obtain⟨h1,h2⟩:=h.closed i oi yM yN j hj
   exact⟨h1,by split<;>simp[h2]⟩
 ·intro i yN
  rw[dI lx]at yN
  by_cases e:x.i=i
  ·exact⟨x,by simp,e⟩
  ·rw[if_neg e]at yN
   obtain⟨y,hy,e⟩:=h.sub i yN
   exact⟨y,by simp[hy],e⟩
 ·intro y hy zZ
  rw[dI lx]
  split
  ·rfl
  ·rename_i bK
   replace hy:=bf hy;rcases hy with hy|rfl
   ·exact h.qY y hy zZ
   ·exact absurd rfl bK
 ·intro u hu gI
  rw[qW _ _ _ _ Xo]
  split
  ·rename_i e;rw[e,iX];exact hv
  ·rename_i e
   rw[cD e]
   exact(h.uW u hu fun y hy qb=>gI y (by simp[hy]) (by rw[dI lx,if_neg (Ne.symm (hd.ne y hy))];exact qb)).mono le
 ·intro y hy qb
  rw[dI lx]at qb
  split at qb
  ·cases qb
  ·rename_i bK
   replace hy:=bf hy;rcases hy with hy|rfl
   ·obtain⟨oz,_,_,Xs⟩:=h.cmp y hy
    obtain⟨t1,t2,_⟩:=gN Xs
    exact(h.fE y hy qb).mono (fun u hu=>CV y hy qb u (t1 u hu)) (fun u hu=>CV y hy qb u (t2 u hu)) (CW y hy) (hs y hy qb) (fun k z _ hz Jw hn _=>fr.2 k z hz Jw hn)
   ·exact absurd rfl bK
 ·intro y hy z hz qb wO bK k hk kW
  rw[dI lx]at qb wO
  split at qb
  ·cases qb
  ·split at wO
   ·cases wO
   ·rename_i hn1 Jf
    replace hy:=bf hy;rcases hy with hy|rfl
    ·replace hz:=bf hz;rcases hz with hz|rfl
     ·rw[hU (CW y hy)]at hk
      rw[hU (CW z hz)]at kW
      exact h.inj y hy z hz qb wO bK k hk kW
     ·exact absurd rfl Jf
    ·exact absurd rfl hn1
theorem Dr.init (sr:SR w0 g H w)(hn:a.tmps.size=n)(vZ:R n=mk)(hr:∀t,t<n→VR g w (R t) (a.tmps.getD t undef))(le:Le g0 ws g w)(fr:Fr g0 H0 g H):Dr P n ops mu w0 a.defers mk g0 ws H0 [] (Array.replicate ops.size false) g R H a w:=by
 have hf:∀i,(Array.replicate ops.size false).getD i false=false:=fun i=>by
  rw[Array.getD_eq_getD_getElem?,Array.getElem?_replicate];split<;>rfl
 refine { yL:=by simp,cmp:=(by simp),rd:=(by simp),dd:=(by simp),kl:=(by simp),uniq:=(by simp),sP:=(by simp),closed:=fun i o _ h=>?_,sub:=fun i h=>?_,qY:=(by simp),sr:=sr,le:=le,fr:=fr,v7:=hn,uW:=fun t ht _=>hr t ht,fE:=(by simp),inj:=(by simp),Lz:=rfl,LA:=vZ }
 ·rw[hf]at h;cases h
 ·rw[hf]at h;cases h
end
section
variable {P:Program} {w0 w:World} {g:Ctx} {H H':af} {R:av} {a:Act} {n:Nat} {ops:Array Oper}
def ky:Bo→Bool
 | .mU _ _ _ _=>true
 | _=>false
theorem hY {b:Bo}(h:ky b=false){neg:Bool}{c:Iv}{x y:X}:b≠.mU neg c x y:=by rintro rfl;cases h
theorem DY {ty:TypeId}{x:X}{b:Bo}(h:ti P ty x=some b):ky b=false:=by
 unfold ti at h;(repeat' split at h)<;>cases h<;>rfl
theorem tD {ty:TypeId}{x:X}{f:Nat}{ad:Bool}{b:Bo}(h:m3 P ty x f ad=some b):ky b=false:=by
 unfold m3 at h;(repeat' split at h)<;>cases h<;>rfl
theorem z7 {ty:TypeId}{x i:X}{ad:Bool}{b:Bo}(h:yC P ty x i ad=some b):ky b=false:=by
 unfold yC at h;(repeat' split at h)<;>first|(cases h<;>rfl)|(simp only[Option.map_eq_some_iff]at h;obtain⟨_,_,h⟩:=h;cases h;rfl)
theorem BU {ty:TypeId}{x:X}{lo hi mx:Option X}{b:Bo}(h:oY P ty x lo hi mx=some b):ky b=false:=by
 unfold oY at h;(repeat' split at h)<;>cases h<;>rfl
theorem DZ {src dst:TypeId}{x:X}{b:Bo}(h:tj P src dst x=some b):ky b=false:=by
 unfold tj at h;(repeat' split at h)<;>cases h<;>rfl
theorem yO {mu:Bool}{iT:List TypeId}{as:List X}{b:Bo}(h:lU P mu iT as=some b):ky b=false:=by
 unfold lU at h;(repeat' split at h)<;>cases h<;>rfl
theorem Jy {iT:List TypeId}{as:List X}{b:Bo}(h:wQ P iT as=some b):ky b=false:=by
 unfold wQ at h;(repeat' split at h)<;>cases h<;>rfl
theorem w9 {mu:Bool}{bt:Builtin}{iT:List TypeId}{as:List X}{b:Bo}(h:jE P mu bt iT as=some b):ky b=false:=by
 unfold jE at h
 split at h
 ·split at h
  ·rename_i b' hz;cases h;exact Jy hz
  ·exact yO h
 all_goals (repeat' split at h)<;>first|(cases h<;>rfl)|(simp only[Option.map_eq_some_iff]at h;obtain⟨_,_,h⟩:=h;cases h;rfl)
theorem BV {ty:TypeId}{ps:List (Nat×X)}{b:Bo}(h:oZ P ty ps=some b):ky b=false:=by
 unfold oZ at h;(repeat' split at h)<;>cases h<;>rfl
theorem Jz {mu:Bool}{ty:TypeId}{n:Nat}{ps:List (Nat×X)}{b:Bo}(h:BL P mu ty n ps=some b):ky b=false:=by
 cases mu<;>unfold BL at h<;>(repeat' split at h)<;>cases h<;>rfl
theorem JA {mu:Bool}{ty:TypeId}{l c:X}{b:Bo}(h:BM P mu ty l c=some b):ky b=false:=by
 unfold BM at h;(repeat' split at h)<;>cases h<;>rfl
theorem yP {mu:Bool}{op:Op}{neg:Bool}{x y:X}(h:bG P mu op=some (.mU neg .slice x y)) :
  ∃Qw ty ox oy yt e,op=.binOp Qw ty ox oy yt∧aP ox=some x∧aP oy=some y∧P.underlying ty=some (.slice e)∧Qw=(if neg then .neq else .eql):=by
 cases op<;>simp only[bG,Option.map_eq_some_iff,Option.bind_eq_some_iff]at h
 case binOp Qw ty ox oy yt =>
  cases h1:aP ox with
  | none=>simp[h1]at h
  | some x'=>cases h2:aP oy with
   | none=>simp[h1,h2]at h
   | some y' =>
    simp only[h1,h2]at h
    unfold DJ at h
    split at h
    ·cases h
    ·cases h
    ·simp only[Option.map_eq_some_iff]at h;obtain⟨_,_,h⟩:=h;cases h
    ·split at h
     ·split at h<;>cases h
     ·cases h
    ·rename_i d _ _ _ _ hu
     split at h
     ·rename_i n' c hn lR
      cases h
      refine⟨Qw,ty,ox,oy,yt,?_⟩
      cases d<;>simp[cls]at lR
      exact⟨_,rfl,h1,h2,hu,by cases Qw<;>simp[isEq]at hn<;>subst hn<;>rfl⟩
     ·cases h
    ·cases h
 case load=>obtain⟨_,_,h⟩:=h;exact absurd rfl (hY (DY h))
 case fieldAddr=>obtain⟨_,_,h⟩:=h;exact absurd rfl (hY (tD h))
 case field=>obtain⟨_,_,h⟩:=h;exact absurd rfl (hY (tD h))
 case indexAddr=>split at h;exact absurd rfl (hY (z7 h));cases h
 case index=>split at h;exact absurd rfl (hY (z7 h));cases h
 case slice=>split at h;exact absurd rfl (hY (BU h));cases h
 case convert=>obtain⟨_,_,h⟩:=h;exact absurd rfl (hY (DZ h))
 case build=>obtain⟨_,_,h⟩:=h;exact absurd rfl (hY (BV h))
 case buildSlice=>obtain⟨_,_,h⟩:=h;exact absurd rfl (hY (Jz h))
 case makeSlice=>split at h;exact absurd rfl (hY (JA h));cases h
 case call c =>
  obtain⟨callee,args,iT⟩:=c
  cases callee
  case builtin=>simp only[bG,Option.bind_eq_some_iff]at h;obtain⟨_,_,h⟩:=h;exact absurd rfl (hY (w9 h))
  case value cv =>
   cases cv<;>simp only[bG]at h<;>(try (cases h;done))
   split at h<;>cases h
  all_goals simp[bG]at h
 case makeMap t r=>cases r<;>simp[bG]at h
 case next it str=>cases str<;>simp[bG]at h
 case range ty m=>split at h;(simp only[Option.map_eq_some_iff]at h;obtain⟨_,_,h⟩:=h;cases h);cases h
 case makeFunc f first kS =>
  cases f<;>simp only[bG]at h
  case func f =>
   split at h
   ·simp only[Option.map_eq_some_iff]at h;obtain⟨_,_,h⟩:=h;cases h
   ·cases h
  all_goals cases h
 all_goals first
  | (cases h;done)
  | (obtain⟨_,_,h⟩:=h;cases h;done)
  | ((repeat' split at h)<;>first|(cases h;done)|(simp only[Option.map_eq_some_iff]at h;obtain⟨_,_,h⟩:=h;cases h;done))
  | (simp only[Option.map_eq_some_iff]at h;obtain⟨_,_,h⟩:=h;cases h)
  | skip
theorem BW {ty e:TypeId}{ox oy:Operand}{ad:Option Addr}{l p:Nat}{neg:Bool}(hu:P.underlying ty=some (.slice e)) :
  (do eqGuard (if neg then .neq else .eql) ty ox oy (.slice ad l p) (.slice none 0 0);binOp (if neg then .neq else .eql) ty (.slice ad l p) (.slice none 0 0)).run P w=.ok (.bool (if neg then !ad.isNone else ad.isNone)) w:=by
 have k1:∀op,(eqGuard op ty ox oy (.slice ad l p) (.slice none 0 0)).run P w=.ok () w:=fun op=>wD
 have k2:(Op.equal ty (.slice ad l p) (.slice none 0 0)).run P w=.ok ad.isNone w:=gl fun n=>by
  rw[Op.equalIn];simp only[Sem.run_bind,run_underlying hu,Result.andThen_ok]
  cases ad<;>simp_all
 have k3:∀neg:Bool,(binOp (if neg then .neq else .eql) ty (.slice ad l p) (.slice none 0 0)).run P w=((Op.equal ty (.slice ad l p) (.slice none 0 0)).run P w).andThen fun b w'=>.ok (.bool (if neg then !b else b)) w':=fun neg=>by cases neg<;>simp[binOp]
 simp only[Sem.run_bind,k1,Result.andThen_ok,k3,k2]
theorem BX {r:Option Nat}{mu:Bool}{o:Oper}{neg:Bool}{x y:X}(hc:bQ P mu o.op=some (.b (.mU neg .slice x y)))(hr:gL g w R a (fg o.op.operands.toList))
  (hx:x.ev R=.sl .arg []) (hy:y.ev R=.sl .nil []):∃b:Bool,∀(K:Act→World→Prop) (Q:Exit→Act→World→Prop),K (a.put o.dst (.bool b)) w→o.wpIn (Fw r) 0 P a w K Q:=by
 have fz:=gT hc
 obtain⟨Qw,ty,ox,oy,yt,e,ho,h1,h2,hu,rfl⟩:=yP (jF hc)
 have hrv:=tC hr
 have v1:=hrv ox (by rw[ho];simp[Op.operands]) x h1
 have v2:=hrv oy (by rw[ho];simp[Op.operands]) y h2
 rw[hx]at v1
 rw[hy]at v2
 generalize h3:a.eval ox=vx at v1
 generalize h4:a.eval oy=vy at v2
 have e2:vy=.slice none 0 0:=by
  cases v2 with
  | slnil=>rfl
  | sl cV hk=>exact hk.elim
 subst e2
 obtain⟨ad,l,p,rfl⟩:∃ad l p,vx=.slice ad l p:=by cases v1<;>exact⟨_,_,_,rfl⟩
 refine⟨if neg then !ad.isNone else ad.isNone,fun K Q hk=>⟨fun _ _=>trivial,?_⟩⟩
 rw[Oper.semAt_eq _ _ _ fz]
 have cy:(execOp a.eval o).run P w=.ok (.value (.bool (if neg then !ad.isNone else ad.isNone))) w:=by
  have:=BW (P:=P) (w:=w) (ox:=ox) (oy:=oy) (ad:=ad) (l:=l) (p:=p) (neg:=neg) hu
  simp only[execOp,ho,h3,h4]
  rw[Sem.run_bind,this]
  rfl
 rw[cy]
 exact hk
end
def hZ (g:Ctx)(w:World)(n:Nat)(R:av)(a:Act):Prop:=a.tmps.size=n∧∀t,t<n→VR g w (R t) (a.tmps.getD t undef)
def sQ:Exit→Option Ex
 | .normal=>some .normal
 | .exit id=>some (.exit id)
 | .ret=>some .ret
 | _=>none
def yQ (w0:World)(n:Nat)(df:List Deferred)(mk:T)(g:Ctx)(w:World)(H:af)(Q:Out→af→Prop):Exit→Act→World→Prop:=fun e a' w' =>
 ∃ex R' g' H',sQ e=some ex∧Q (.ex ex R') H'∧Le g w g' w'∧SR w0 g' H' w'∧hZ g' w' n R' a'∧Fr g H g' H'∧a'.defers=df∧R' n=mk
def tE (w0:World)(g:Ctx)(w:World)(H:af)(Q:T→af→Prop):Ending→World→Prop:=fun e w' =>
 ∃v t g' H',e=.returned v∧Q t H'∧Le g w g' w'∧SR w0 g' H' w'∧VR g' w' t v∧Fr g H g' H'
structure z8 (P:Program)(E:Env):Prop where
 mixed:P.follows .mixedOrders=true
 fn:∀f fn,E.fn f=some fn→∃an,aj P an f=some fn
 oO:∀f as H Q,E.oO f as H Q→∀w0 g w args,SR w0 g H w→bF g w as args→dH P f=true∧CallsIn (Fw none) 0 P f args.toArray w (tE w0 g w H Q)
inductive xa (g:Ctx):List T→List Deferred→Prop
 | nil:xa g [] []
 | cons {b r o q ts df} (h:g.φ b=some (r,o,q)) (hs:xa g ts df):xa g (.ptr b 0 :: ts) ({ target:=.collected r,args:=#[] } :: df)
theorem xa.mono {g g':Ctx}{w w':World}(le:Le g w g' w'){ts:List T}{df:List Deferred}(h:xa g ts df):xa g' ts df:=by
 induction h with
 | nil=>exact .nil
 | cons h _ ih=>exact .cons (le.φ _ _ h) ih
def Mk (g:Ctx)(t:T)(df:List Deferred):Prop:=∃ts,t=.bJ ts∧xa g ts df
theorem Mk.mono {g g':Ctx}{w w':World}(le:Le g w g' w'){t:T}{df:List Deferred}(h:Mk g t df):Mk g' t df:=let ⟨ts,e,h⟩:=h;⟨ts,e,h.mono le⟩
def lB (w0:World)(n:Nat)(hr:Bool)(df:List Deferred)(mk:T)(g:Ctx)(w:World)(H:af)(Q:Out→af→Prop):Exit→Act→World→Prop:=fun e a' w' =>
 ∃ex R' g' H',sQ e=some ex∧Q (.ex ex R') H'∧Le g w g' w'∧SR w0 g' H' w'∧hZ g' w' n R' a'∧Fr g H g' H'∧(Mk g mk df→Mk g' (R' n) a'.defers)∧(hr=false→R' n=mk∧a'.defers=df)
def gp (P:Program)(g:Ctx):Prop:=∀n c k,g.ck n c k↔∃an,bE P n an false k=some c
theorem gp.mono {P:Program}{g g':Ctx}{w w':World}(le:Le g w g' w')(h:gp P g):gp P g':=fun n c k=>by rw[le.ck];exact h n c k
def ra (F:Fence)(n:Nat)(P:Program)(c:Code)(Q:Exit→Act→World→Prop)(a:Act)(w:World):Prop :=
 ∀(b:Frame) (k:List Item) (cs:List Frame),b.roundOf=F.round→F.fn b.fn→F.room (cs.length+1+n) →
  ∃e a' w',Q e a' w'∧ArrivesIn (Machine.fenced P F) P (lone (b.atR a (.code c :: .inLoop c :: k)) cs w) b k cs e a' w'
theorem xb {F:Fence}{n:Nat}{P:Program}{c:Code}{Q:Exit→Act→World→Prop}{a:Act}{w:World}(h:c.wpIn F n P (Exit.then (ra F n P c Q) Q) a w):ra F n P c Q a w:=by
 intro b k cs V4 hb hr
 obtain⟨e,a₁,w₁,hq,nO⟩:=h b (.inLoop c :: k) cs V4 hb hr
 cases e with
 | normal =>
  obtain⟨e₂,a₂,w₂,hq₂,RA⟩:=hq b k cs V4 hb hr
  exact⟨e₂,a₂,w₂,hq₂,.of_steps (StepsIn.trans nO (.one (fenced_calm hb hr rfl) stepR_inLoop)) RA⟩
 | exit id=>exact⟨_,a₁,w₁,hq,.pass (x:=.inLoop c) rfl (fun _ _=>.inl (by simp)) nO⟩
 | goto l=>exact⟨_,a₁,w₁,hq,.pass (x:=.inLoop c) rfl (fun _ _=>.inl (by simp)) nO⟩
 | ret=>exact⟨_,a₁,w₁,hq,.pass (x:=.inLoop c) rfl (fun _ _=>.inl (by simp)) nO⟩
 | panic ch=>exact⟨_,a₁,w₁,hq,.pass (x:=.inLoop c) rfl (fun _ _=>.inl (by simp)) nO⟩
 | outgrown=>exact⟨_,a₁,w₁,hq,.pass (x:=.inLoop c) rfl (fun _ _=>.inl (by simp)) nO⟩
theorem BZ {F:Fence}{n:Nat}{P:Program}{c:Code}{Q:Exit→Act→World→Prop}{a:Act}{w:World}(h:ra F n P c Q a w):(Code.loop c).wpIn F n P Q a w :=
 fun b k cs V4 hb hr=>let ⟨e,a',w',hq,nO⟩:=h b k cs V4 hb hr;⟨e,a',w',hq,.of_steps (.one (fenced_calm hb hr rfl) stepR_loop) nO⟩
section
variable {P:Program} {w0 w ws:World} {g g0:Ctx} {H H0 H':af} {R:av} {a:Act} {n:Nat} {ops:Array Oper} {r:Option Nat} {mu:Bool} {i:Nat} {o:Oper} {st JB:List Rd}
theorem pP {y:O}(hc:fJ P n ops mu o st=some y):∀t∈tmpsOf o y.op y.g,t<n:=by
 obtain⟨op,gd,_,_,rfl,h,_⟩:=bB hc;exact h
theorem z9 {d:Option Nat}{op:Lq}{gd:Gd}(ho:ops[i]?=some o)(hc:fJ P n ops mu o st=some ⟨d,op,gd,JB⟩)(hn:a.tmps.size=n)(hr:gL g w R a (tmpsOf o op gd))(hw:bO R gd=false)
  {K:Act→World→Prop} {Q:Exit→Act→World→Prop} (hk:K (a.put d undef) w):wpOpIn (Fw r) 0 P ops Q i K a w:=by
 obtain⟨Ns,Nt,h1,h2,h3,h4,h5⟩:=bB hc
 cases h3
 unfold wpOpIn
 simp only[ho,pb h2 hn (fun t ht=>h4 t (by simp[tmpsOf,ht])) (hr.sub fun t ht=>by simp[tmpsOf,ht]),hw]
 exact⟨fun _ _=>trivial,hk⟩
theorem gU {d:Option Nat}{op:Lq}{gd:Gd}(ho:ops[i]?=some o)(hc:fJ P n ops mu o st=some ⟨d,op,gd,JB⟩)(hn:a.tmps.size=n)(hr:gL g w R a (tmpsOf o op gd))(hw:bO R gd=true)
  {K:Act→World→Prop} {Q:Exit→Act→World→Prop} (hk:o.wpIn (Fw r) 0 P a w K Q):wpOpIn (Fw r) 0 P ops Q i K a w:=by
 obtain⟨Ns,Nt,h1,h2,h3,h4,h5⟩:=bB hc
 cases h3
 unfold wpOpIn
 simp only[ho,pb h2 hn (fun t ht=>h4 t (by simp[tmpsOf,ht])) (hr.sub fun t ht=>by simp[tmpsOf,ht]),hw,if_true]
 exact hk
theorem lZ {op:Lq}{gd:Gd}(hr:gL g w R a (tmpsOf o op gd)):gL g w R a (fg o.op.operands.toList):=hr.sub fun t ht=>by simp[tmpsOf,ht]
theorem Aa {d:Option Nat}{b:Bo}{gd:Gd}{t:T}(ho:ops[i]?=some o)(hc:fJ P n ops mu o st=some ⟨d,.b b,gd,JB⟩)(hn:a.tmps.size=n)(hr:gL g w R a (tmpsOf o (.b b) gd))(hw:bO R gd=true)
  (h:SR w0 g H w) (he:ar R H b=some (t,H')) :
  ∃v w' g',(∀(K:Act→World→Prop) (Q:Exit→Act→World→Prop),K (a.put d v) w'→wpOpIn (Fw r) 0 P ops Q i K a w)∧Le g w g' w'∧SR w0 g' H' w'∧VR g' w' t v∧Fr g H g' H':=by
 obtain⟨Ns,Nt,h1,h2,h3,h4,h5⟩:=bB hc
 cases h3
 obtain⟨v,w',g',hs,rest⟩:=DS (r:=r) h1 h (lZ hr) he
 exact⟨v,w',g',fun K Q hk=>gU ho hc hn hr hw (hs K Q hk),rest⟩
theorem xc {d:Option Nat}{x:X}{gd:Gd}{b bi:Nat}{es:List (T×T)}{ix:List Nat}{cur:Option Nat}(ho:ops[i]?=some o)(hc:fJ P n ops mu o st=some ⟨d,.b (.qh x),gd,JB⟩)(hn:a.tmps.size=n)(hr:gL g w R a (tmpsOf o (.b (.qh x)) gd))(hw:bO R gd=true)
  (h:SR w0 g H w) (hx:x.ev R=.ptr bi 0) (hb:H[b]?=some (.cT es ix bi cur)) :
  ∃t H' v w' g',nE H b bi es ix t H'∧(∀(K:Act→World→Prop) (Q:Exit→Act→World→Prop),K (a.put d v) w'→wpOpIn (Fw r) 0 P ops Q i K a w)∧Le g w g' w'∧SR w0 g' H' w'∧VR g' w' t v∧Fr g H g' H':=by
 obtain⟨Ns,Nt,h1,h2,h3,h4,h5⟩:=bB hc
 cases h3
 obtain⟨t,H',v,w',g',Jw,hs,rest⟩:=DT (r:=r) h1 h (lZ hr) hx hb
 exact⟨t,H',v,w',g',Jw,fun K Q hk=>gU ho hc hn hr hw (hs K Q hk),rest⟩
theorem tF {d:Option Nat}{neg:Bool}{x y:X}{gd:Gd}(ho:ops[i]?=some o)(hc:fJ P n ops mu o st=some ⟨d,.b (.mU neg .slice x y),gd,JB⟩)(hn:a.tmps.size=n)(hr:gL g w R a (tmpsOf o (.b (.mU neg .slice x y)) gd))(hw:bO R gd=true)
  (hx:x.ev R=.sl .arg []) (hy:y.ev R=.sl .nil []):∃b:Bool,∀(K:Act→World→Prop) (Q:Exit→Act→World→Prop),K (a.put d (.bool b)) w→wpOpIn (Fw r) 0 P ops Q i K a w:=by
 obtain⟨Ns,Nt,h1,h2,h3,h4,h5⟩:=bB hc
 cases h3
 obtain⟨b,hs⟩:=BX (r:=r) h1 (lZ hr) hx hy
 exact⟨b,fun K Q hk=>gU ho hc hn hr hw (hs K Q hk)⟩
theorem tG {d:Option Nat}{f:Nat}{as:List X}{gd:Gd}{M:T→af→Prop}(ho:ops[i]?=some o)(hc:fJ P n ops mu o st=some ⟨d,.call f as,gd,JB⟩)(hn:a.tmps.size=n)(hr:gL g w R a (tmpsOf o (.call f as) gd))(hw:bO R gd=true)
  (ih:∀args,bF g w (as.map (X.ev R)) args→dH P f=true∧CallsIn (Fw none) 0 P f args.toArray w (tE w0 g w H M)) {K:Act→World→Prop} {Q:Exit→Act→World→Prop}
  (hk:∀v w' g' H' t,M t H'→Le g w g' w'→SR w0 g' H' w'→VR g' w' t v→Fr g H g' H'→K (a.put d v) w'):wpOpIn (Fw r) 0 P ops Q i K a w:=by
 obtain⟨Ns,Nt,h1,h2,h3,h4,h5⟩:=bB hc
 cases h3
 obtain⟨args,hv,hs⟩:=BR (r:=r) h1 (lZ hr)
 obtain⟨k1,k2⟩:=ih args hv
 exact gU ho hc hn hr hw (hs K Q k1 (k2.mono fun e w' ⟨v,t,g',H',he,hM,le,sr,fP,fr⟩=>⟨v,he,hk v w' g' H' t hM le sr fP fr⟩))
theorem rb {d:Option Nat}{x:X}{f:Nat}{cs:List T}{as:List X}{gd:Gd}{M:T→af→Prop}(ho:ops[i]?=some o)(hc:fJ P n ops mu o st=some ⟨d,.bD x as,gd,JB⟩)(hn:a.tmps.size=n)(hr:gL g w R a (tmpsOf o (.bD x as) gd))(hw:bO R gd=true)
  (hx:x.ev R=.fn f cs) (ih:∀args,bF g w (as.map (X.ev R)++cs) args→dH P f=true∧CallsIn (Fw none) 0 P f args.toArray w (tE w0 g w H M)) {K:Act→World→Prop} {Q:Exit→Act→World→Prop}
  (hk:∀v w' g' H' t,M t H'→Le g w g' w'→SR w0 g' H' w'→VR g' w' t v→Fr g H g' H'→K (a.put d v) w'):wpOpIn (Fw r) 0 P ops Q i K a w:=by
 obtain⟨Ns,Nt,h1,h2,h3,h4,h5⟩:=bB hc
 cases h3
 obtain⟨args,hv,hs⟩:=yK (r:=r) h1 (lZ hr) hx
 obtain⟨k1,k2⟩:=ih args hv
 exact gU ho hc hn hr hw (hs K Q k1 (k2.mono fun e w' ⟨v,t,g',H',he,hM,le,sr,fP,fr⟩=>⟨v,he,hk v w' g' H' t hM le sr fP fr⟩))
theorem hZ.put {d:Option Nat}{v:Value}{t:T}{w':World}{g':Ctx}(h:hZ g w n R a)(hd:∀e,d=some e→e<n)(le:Le g w g' w')(hv:VR g' w' t v):hZ g' w' n (bC R d t) (a.put d v):=by
 refine⟨by rw[qX];exact h.1,fun u hu=>?_⟩
 rw[qW _ _ _ _ (by rw[h.1];exact hd)]
 split
 ·rename_i e;rw[e,iX];exact hv
 ·rename_i e;rw[cD e];exact(h.2 u hu).mono le
theorem hZ.rg (h:hZ g w n R a){ts:List Nat}(ht:∀t∈ts,t<n):gL g w R a ts:=fun t hm=>h.2 t (ht t hm)
end
section
variable {P:Program} {n:Nat} {ops:Array Oper} {mu:Nat→Bool} {w0 ws:World} {df:List Deferred} {mk:T} {g0:Ctx} {H0:af} {pre:List It} {r:Option Nat} {x:It} {o:Oper} {Q:Out→af→Prop}
def left (L:Array Bool):Nat:=L.toList.count false
theorem re {L:Array Bool}{i:Nat}(hi:i<L.size)(hf:L.getD i false=false):left (L.setIfInBounds i true)+1=left L:=by
 unfold left
 rw[Array.toList_setIfInBounds,List.count_set (by simpa using hi)]
 have hg:L.toList[i]'(by simpa using hi)=false:=by
  rw[Array.getD_eq_getD_getElem?,Array.getElem?_eq_getElem hi,Option.getD_some]at hf
  simpa using hf
 have Nb:0<L.toList.count false:=List.count_pos_iff.2 (hg▸List.getElem_mem _)
 rw[hg]
 have e1:((false==false:Bool)=true):=rfl
 have e2:¬((true==false:Bool)=true):=by decide
 rw[if_pos e1,if_neg e2]
 omega
theorem tH {L:Array Bool}(h:left L=0){i:Nat}(hi:i<L.size):L.getD i false=true:=by
 cases e:L.getD i false with
 | true=>rfl
 | false=>have:=re hi e;omega
theorem tI {L:Array Bool}(a9:L.size=ops.size)(Ni:∀i o,ops[i]?=some o→∀j∈cC o,j<i)(h:Region.ready .any ops L=[]):∀i,i<ops.size→L.getD i false=true:=by
 intro i
 induction i using Nat.strongRecOn with
 | _ i ih =>
  intro hi
  cases e:L.getD i false with
  | true=>rfl
  | false =>
   have:i∈Region.ready .any ops L:=by
    rw[mem_ready]
    refine⟨?_,ops[i],Array.getElem?_eq_getElem hi,fun ed he hb=>?_⟩
    ·have jR:i<L.size:=by omega
     rw[Array.getD_eq_getD_getElem?,Array.getElem?_eq_getElem jR]at e ⊢;exact e
    ·have hj:ed.on∈cC ops[i]:=by simp only[cC,List.mem_map,List.mem_filter];exact⟨ed,⟨by simpa using he,hb⟩,rfl⟩
     have:=Ni i _ (Array.getElem?_eq_getElem hi) _ hj
     exact ih _ this (by omega)
   rw[h]at this;cases this
theorem B0 {R:av}{H:af}(cJ:∀i,i<ops.size→∃y∈pre,y.i=i)(hQ:Q (.ex .normal R) H):∀(fuel:Nat) (L:Array Bool) (g:Ctx) (a:Act) (w:World),left L≤fuel→Dr P n ops mu w0 df mk g0 ws H0 pre L g R H a w →
  wpAnyIn (Fw r) 0 P .any ops (yQ w0 n df mk g0 ws H0 Q) fuel L a w:=by
 have fin:∀(L:Array Bool) (g:Ctx) (a:Act) (w:World),Dr P n ops mu w0 df mk g0 ws H0 pre L g R H a w→(∀i,i<ops.size→L.getD i false=true)→yQ w0 n df mk g0 ws H0 Q .normal a w:=by
  intro L g a w h hl
  refine⟨.normal,R,g,H,rfl,hQ,h.le,h.sr,⟨h.v7,fun t ht=>h.uW t ht fun y hy hu=>?_⟩,h.fr,h.Lz,h.LA⟩
  obtain⟨o,ho,_⟩:=h.cmp y hy
  rw[hl y.i (Array.getElem?_eq_some_iff.1 ho).1]at hu;cases hu
 have Ni:∀(L:Array Bool) (g:Ctx) (a:Act) (w:World),Dr P n ops mu w0 df mk g0 ws H0 pre L g R H a w→∀i o,ops[i]?=some o→∀j∈cC o,j<i:=by
  intro L g a w h i o ho
  obtain⟨y,hy,rfl⟩:=cJ i (Array.getElem?_eq_some_iff.1 ho).1
  exact h.sP y hy o ho
 intro fuel
 induction fuel with
 | zero =>
  intro L g a w hL h
  have hl:∀i,i<ops.size→L.getD i false=true:=fun i hi=>tH (by omega) (by rw[h.yL];exact hi)
  refine⟨?_,fin L g a w h hl⟩
  refine List.eq_nil_iff_forall_not_mem.2 fun i hi=>?_
  obtain⟨h1,o,h2,_⟩:=lY hi
  rw[hl i (Array.getElem?_eq_some_iff.1 h2).1]at h1;cases h1
 | succ fuel ih =>
  intro L g a w hL h
  refine⟨fun hr=>fin L g a w h (tI h.yL (Ni L g a w h) hr),fun i hi=>?_⟩
  obtain⟨h1,o,h2,_⟩:=lY hi
  have aw:=(Array.getElem?_eq_some_iff.1 h2).1
  obtain⟨y,hy,rfl⟩:=cJ i aw
  obtain⟨v,w',g',hs,hd⟩:=h.late (r:=r) hy hi
  have:=re (by rw[h.yL];exact aw) h1
  exact hs _ _ (ih _ _ _ _ (by omega) hd)
theorem fh {R:av}{H:af}{Tl:av→af→Prop}{Qx:Exit→Act→World→Prop}{l:List It}(hd:Hd P n ops mu pre x o)(hx:x.early=false)(cJ:∀i,i<ops.size→∃y∈pre++x :: l,y.i=i)
  (RB:∀y∈l,(∃o,ops[y.i]?=some o∧(∀j∈cC o,j<y.i))∧∀z∈pre++[x],z.early=true∨((eX ops.toList []).getD y.i 0).testBit z.i=true)
  (hT:∀R' H',Tl R' H'→∀fuel L' g' a' w',left L'≤fuel→Dr P n ops mu w0 df mk g0 ws H0 (pre++[x]) L' g' R' H' a' w'→wpAnyIn (Fw r) 0 P .any ops Qx fuel L' a' w')
  (hX:∀L g a w,Dr P n ops mu w0 df mk g0 ws H0 pre L g R H a w→(∀j∈cC o,L.getD j false=true)→∀K:Act→World→Prop,
   (∀R' H' g' a' w',Tl R' H'→Dr P n ops mu w0 df mk g0 ws H0 (pre++[x]) (L.setIfInBounds x.i true) g' R' H' a' w'→K a' w')→wpOpIn (Fw r) 0 P ops Qx x.i K a w) :
  ∀(fuel:Nat) (L:Array Bool) (g:Ctx) (a:Act) (w:World),left L≤fuel→Dr P n ops mu w0 df mk g0 ws H0 pre L g R H a w→wpAnyIn (Fw r) 0 P .any ops Qx fuel L a w:=by
 have HN:x.i<ops.size:=(Array.getElem?_eq_some_iff.1 hd.ho).1
 intro fuel
 induction fuel with
 | zero =>
  intro L g a w hL h
  have h1:=h.m4 hd
  rw[tH (by omega) (by rw[h.yL];exact HN)]at h1;cases h1
 | succ fuel ih =>
  intro L g a w hL h
  have Dn:=h.m4 hd
  refine⟨fun hr=>?_,fun i hi=>?_⟩
  ·have hl:=tI h.yL (fun i o' mY j hj=>?_) hr x.i HN
   ·rw[hl]at Dn;cases Dn
   ·obtain⟨y,hy,rfl⟩:=cJ i (Array.getElem?_eq_some_iff.1 mY).1
    rcases List.mem_append.1 hy with hy|hy
    ·exact h.sP y hy o' mY j hj
    ·rcases List.mem_cons.1 hy with rfl|hy
     ·rw[hd.ho]at mY;cases mY;exact(hd.pred j hj).1
     ·obtain⟨⟨o2,h2,h3⟩,_⟩:=RB y hy
      rw[h2]at mY;cases mY;exact h3 j hj
  ·obtain⟨h1,o',h2,h3⟩:=lY hi
   have aw:=(Array.getElem?_eq_some_iff.1 h2).1
   have adv:=re (by rw[h.yL];exact aw) h1
   obtain⟨y,hy,rfl⟩:=cJ i aw
   rcases List.mem_append.1 hy with hy|hy
   ·obtain⟨v,w',g',hs,Xt⟩:=h.late (r:=r) hy hi
    exact hs _ _ (ih _ _ _ _ (by omega) Xt)
   ·rcases List.mem_cons.1 hy with rfl|hy
    ·rw[hd.ho]at h2;cases h2
     exact hX L g a w h h3 _ fun R' H' g' a' w' ht Xt=>hT R' H' ht fuel _ g' a' w' (by omega) Xt
    ·obtain⟨⟨o2,h4,h5⟩,h6⟩:=RB y hy
     rw[h2]at h4;cases h4
     rcases h6 x (by simp)with h7|h7
     ·rw[hx]at h7;cases h7
     ·have:=h.bit h2 (fun j hj=>⟨h5 j hj,h3 j hj⟩) h7
      rw[Dn]at this;cases this
end
def Xu (P : Program) : J → af → (Out → af → Prop) → Prop
  | .code c R, H, Q => ∀(w0 : World) (g : Ctx) (w : World) (a : Act) (n : Nat) (an : An) (top : Bool) (code : Code) (r : Option Nat), bE P n an top code = some c → (top = true → r = none) → gp P g → SR w0 g H w → hZ g w n R a →
      code.wpIn (Fw r) 0 P (lB w0 n c.mz a.defers (R n) g w H Q) a w ∧ ∀body, code = .loop body → ra (Fw r) 0 P body (lB w0 n c.mz a.defers (R n) g w H Q) a w
  | .ops l R, H, Q => (∀(w0 : World) (g0 : Ctx) (ws : World) (H0 : af) (g : Ctx) (w : World) (a : Act) (n : Nat) (ops : Array Oper) (mu : Nat → Bool) (is : List Nat) (r : Option Nat), ga P n ops mu is = some l → gp P g → SR w0 g H w → hZ g w n R a →
        Le g0 ws g w → Fr g0 H0 g H → wpOpsIn (Fw r) 0 P ops (yQ w0 n a.defers (R n) g0 ws H0 Q) is a w) ∧
      (∀(w0 : World) (n : Nat) (ops : Array Oper) (mu : Nat → Bool) (df : List Deferred) (mk : T) (g0 : Ctx) (ws : World) (H0 : af) (pre : List It) (L : Array Bool) (g : Ctx) (a : Act) (w : World) (ord : List (Nat×Bool)) (jW : List It) (r : Option Nat) (fuel : Nat),
        gp P g → dX P n ops mu (eX ops.toList []) pre ord = some jW → jW.map (·.o) = l → Dr P n ops mu w0 df mk g0 ws H0 pre L g R H a w → left L ≤ fuel → wpAnyIn (Fw r) 0 P .any ops (yQ w0 n df mk g0 ws H0 Q) fuel L a w)
  | .call f as, H, Q => ∀(w0 : World) (g : Ctx) (w : World) (args : List Value), gp P g → SR w0 g H w → bF g w as args → dH P f = true ∧ CallsIn (Fw none) 0 P f args.toArray w (tE w0 g w H fun v H' => Q (.val v) H')
theorem lB.trans {w0 w w':World}{n:Nat}{hr oJ:Bool}{df Xv:List Deferred}{mk mk':T}{g g':Ctx}{H H':af}{Q:Out→af→Prop}(le:Le g w g' w')(fr:Fr g H g' H')(hm:Mk g mk df→Mk g' mk' Xv)(hh:hr=false→oJ=false∧mk'=mk∧Xv=df)
  {e:Exit} {a:Act} {u:World} (h:lB w0 n oJ Xv mk' g' w' H' Q e a u):lB w0 n hr df mk g w H Q e a u:=by
 obtain⟨ex,R',g2,H2,h1,h2,h3,h4,h5,h6,h7,h8⟩:=h
 refine⟨ex,R',g2,H2,h1,h2,le.trans h3,h4,h5,fr.trans h6,fun m=>h7 (hm m),fun e=>?_⟩
 obtain⟨k1,k2,k3⟩:=hh e
 obtain⟨k4,k5⟩:=h8 k1
 exact⟨k4.trans k2,k5.trans k3⟩
theorem yQ.toC {w0 w:World}{n:Nat}{hr:Bool}{df:List Deferred}{mk:T}{g:Ctx}{H:af}{Q:Out→af→Prop}{e:Exit}{a:Act}{u:World}(h:yQ w0 n df mk g w H Q e a u):lB w0 n hr df mk g w H Q e a u:=by
 obtain⟨ex,R',g2,H2,h1,h2,h3,h4,h5,h6,h7,h8⟩:=h
 exact⟨ex,R',g2,H2,h1,h2,h3,h4,h5,h6,fun m=>by rw[h7,h8];exact m.mono h3,fun _=>⟨h8,h7⟩⟩
section
variable {P:Program} {n:Nat} {an:An} {top:Bool} {code:Code}
theorem D0 (h:bE P n an top code=some .skip):code=.skip:=by
 cases code<;>(try simp only[bE]at h)
 case region id ops draw=>cases draw<;>simp only[bE]at h<;>(repeat' split at h)<;>simp at h
 all_goals first|rfl|(cases h;done)|((repeat' split at h)<;>simp at h;done)|(simp at h;done)
theorem D1 {id:Nat}(h:bE P n an top code=some (.exit id)):code=.exit id:=by
 cases code<;>(try simp only[bE]at h)
 case region id ops draw=>cases draw<;>simp only[bE]at h<;>(repeat' split at h)<;>simp at h
 all_goals first|(cases h;rfl)|(cases h;done)|((repeat' split at h)<;>simp at h;done)|(simp at h;done)
theorem JC (h:bE P n an top code=some .ret):code=.ret:=by
 cases code<;>(try simp only[bE]at h)
 case region id ops draw=>cases draw<;>simp only[bE]at h<;>(repeat' split at h)<;>simp at h
 all_goals first|rfl|(cases h;done)|((repeat' split at h)<;>simp at h;done)|(simp at h;done)
theorem JD {x y:C}(h:bE P n an top code=some (.seq x y)):∃c d,code=.seq c d∧bE P n an top c=some x∧bE P n an top d=some y:=by
 cases code<;>(try simp only[bE]at h)
 case region id ops draw=>cases draw<;>simp only[bE]at h<;>(repeat' split at h)<;>simp at h
 case seq c d =>
  split at h
  ·rename_i h1 h2;cases h;exact⟨c,d,rfl,h1,h2⟩
  ·cases h
 all_goals first|(cases h;done)|((repeat' split at h)<;>simp at h;done)|(simp at h;done)
theorem D2 {c:X}{x y:C}(h:bE P n an top code=some (.cond c x y)):∃o d e,code=.cond o d e∧aP o=some c∧bE P n an top d=some x∧bE P n an top e=some y∧∀t,o=.tmp t→t<n:=by
 cases code<;>(try simp only[bE]at h)
 case region id ops draw=>cases draw<;>simp only[bE]at h<;>(repeat' split at h)<;>simp at h
 case cond o d e =>
  split at h
  ·rename_i h1 h2 h3
   cases o with
   | tmp t =>
    simp only[decide_eq_true_eq]at h
    split at h
    ·rename_i h4;cases h;exact⟨_,d,e,rfl,h1,h2,h3,fun t' ht=>by cases ht;exact h4⟩
    ·cases h
   | _=>simp at h;obtain⟨rfl,rfl,rfl⟩:=h;exact⟨_,d,e,rfl,h1,h2,h3,fun t ht=>by cases ht⟩
  ·cases h
 all_goals first|(cases h;done)|((repeat' split at h)<;>simp at h;done)|(simp at h;done)
theorem B1 {id:Nat}{x:C}(h:bE P n an top code=some (.block id x)):∃c,code=.block id c∧bE P n an top c=some x:=by
 cases code<;>(try simp only[bE]at h)
 case region id ops draw=>cases draw<;>simp only[bE]at h<;>(repeat' split at h)<;>simp at h
 case block id' c =>
  simp only[Option.map_eq_some_iff]at h
  obtain⟨x',h1,h2⟩:=h
  cases h2;exact⟨c,rfl,h1⟩
 all_goals first|(cases h;done)|((repeat' split at h)<;>simp at h;done)|(simp at h;done)
theorem D3 {x:C}(h:bE P n an top code=some (.loop x)):∃c,code=.loop c∧bE P n an top c=some x:=by
 cases code<;>(try simp only[bE]at h)
 case region id ops draw=>cases draw<;>simp only[bE]at h<;>(repeat' split at h)<;>simp at h
 case loop c =>
  simp only[Option.map_eq_some_iff]at h
  obtain⟨x',h1,h2⟩:=h
  cases h2;exact⟨c,rfl,h1⟩
 all_goals first|(cases h;done)|((repeat' split at h)<;>simp at h;done)|(simp at h;done)
theorem B2 {m:Nat}{x:X}{ps:List Nat}{y z:C}(h:bE P n an top code=some (.cL m x ps y z)):∃g qs c d,code=.rangeFunc g qs c d∧aP g=some x∧bE P n an false c=some y∧bE P n an false d=some z∧top=true∧(∀t∈dV x,t<n)∧qs.toList=ps∧(∀p∈ps,p<n)∧m=n:=by
 cases code<;>(try simp only[bE]at h)
 case region id ops draw=>cases draw<;>simp only[bE]at h<;>(repeat' split at h)<;>simp at h
 case rangeFunc g qs c d =>
  split at h
  ·rename_i h1 h2 h3
   split at h
   ·rename_i h4
    cases h
    simp only[Bool.and_eq_true,List.all_eq_true,decide_eq_true_eq]at h4
    exact⟨g,qs,c,d,rfl,h1,h2,h3,h4.1.1,h4.1.2,rfl,h4.2,rfl⟩
   ·cases h
  ·cases h
 all_goals first|(cases h;done)|((repeat' split at h)<;>simp at h;done)|(simp at h;done)
theorem JE {l:List O}(h:bE P n an top code=some (.ops l)):∃id ops mu,(code=.region id ops false∧ga P n ops mu (List.range ops.size)=some l) ∨
  (code=.region id ops true∧∃ord jW,dX P n ops mu (eX ops.toList []) [] ord=some jW∧jW.map (·.o)=l):=by
 cases code<;>(try simp only[bE]at h)
 case region id ops draw =>
  cases draw<;>simp only[bE]at h
  ·simp only[Option.map_eq_some_iff]at h
   obtain⟨l',h1,h2⟩:=h
   cases h2;exact⟨id,ops,_,.inl ⟨rfl,h1⟩⟩
  ·split at h
   ·rename_i ord _
    simp only[Option.map_eq_some_iff]at h
    obtain⟨jW,h1,h2⟩:=h
    cases h2;exact⟨id,ops,_,.inr ⟨rfl,ord,jW,h1,rfl⟩⟩
   ·cases h
 all_goals first|(cases h;done)|((repeat' split at h)<;>simp at h;done)|(simp at h;done)
end
theorem dE {P:Program}{n:Nat}{ops:Array Oper}{mu:Nat→Bool}{is:List Nat}{o:O}{l:List O}(h:ga P n ops mu is=some (o :: l)) :
  ∃i tJ oper,is=i :: tJ∧ops[i]?=some oper∧fJ P n ops (mu i) oper []=some o∧ga P n ops mu tJ=some l:=by
 cases is with
 | nil=>simp[ga]at h
 | cons i tJ =>
  simp only[ga]at h
  split at h
  ·rename_i oper ho
   split at h
   ·rename_i h1 h2;cases h;exact⟨i,tJ,oper,rfl,ho,h1,h2⟩
   ·cases h
  ·cases h
theorem xd {P:Program}{n:Nat}{ops:Array Oper}{mu:Nat→Bool}{is:List Nat}(h:ga P n ops mu is=some []):is=[]:=by
 cases is with
 | nil=>rfl
 | cons i tJ =>
  simp only[ga]at h
  split at h
  ·split at h<;>simp at h
  ·cases h
theorem ib {P:Program}{n:Nat}{ops:Array Oper}{mu:Nat→Bool}{pre:List It}{ord:List (Nat×Bool)}{jW:List It}{o:O}{l:List O}(h:dX P n ops mu (eX ops.toList []) pre ord=some jW)(hm:jW.map (·.o)=o :: l) :
  ∃x l' fT oper,jW=x :: l'∧x.o=o∧l'.map (·.o)=l∧Hd P n ops mu pre x oper∧dX P n ops mu (eX ops.toList []) (pre++[x]) fT=some l':=by
 cases ord with
 | nil =>
  simp only[dX]at h
  split at h
  ·cases h;simp at hm
  ·cases h
 | cons y fT =>
  obtain⟨x,l',oper,rfl,h1,h2⟩:=ka h
  simp only[List.map_cons,List.cons.injEq]at hm
  exact⟨x,l',fT,oper,rfl,hm.1,hm.2,h1,h2⟩
section
variable {P:Program} {n:Nat} {ops:Array Oper} {mu:Nat→Bool} {w0 w ws:World} {df:List Deferred} {mk:T} {g g0:Ctx} {H H0 H':af} {pre:List It} {L:Array Bool} {R:av} {a:Act} {r:Option Nat} {x:It} {o:Oper}
theorem Hd.sub (hd:Hd P n ops mu pre x o)(v:T):(∀t∈mK x.o.g,bC R x.o.d v t=R t)∧∀t∈zY x.o.op,bC R x.o.d v t=R t:=by
 obtain⟨t1,t2,_⟩:=gN hd.ts
 exact⟨fun t ht=>cD fun e=>(hd.dst t e).2 (t1 t ht),fun t ht=>cD fun e=>(hd.dst t e).2 (t2 t ht)⟩
theorem Dr.JF (h:Dr P n ops mu w0 df mk g0 ws H0 pre L g R H a w)(hd:Hd P n ops mu pre x o)(he:x.early=true)(hw:bO R x.o.g=false):Dr P n ops mu w0 df mk g0 ws H0 (pre++[x]) L g (bC R x.o.d b0) H a w:=by
 refine h.take hd he (.inl ⟨?_,fun d e=>by rw[e,iX]⟩) (.inl rfl) fun k hk=>?_
 ·rw[lz (R':=R) (hd.sub b0).1];exact hw
 ·unfold jZ at hk
  split at hk
  ·rename_i e _;rw[e,iX]at hk;cases hk
  ·rename_i e _;rw[e,iX]at hk;cases hk
  ·cases hk
theorem Dr.JG {b:Bo}{v:T}(h:Dr P n ops mu w0 df mk g0 ws H0 pre L g R H a w)(hd:Hd P n ops mu pre x o)(he:x.early=true)(hb:x.o.op=.b b)(hw:bO R x.o.g=true)(hv:ar R H b=some (v,H')) :
  Dr P n ops mu w0 df mk g0 ws H0 (pre++[x]) L g (bC R x.o.d v) H' a w:=by
 obtain⟨k1,k2⟩:=hd.kl he
 cases JH:x.o.d with
 | none=>exact absurd (by simp[HS,hb,JH]) k1
 | some d =>
  have V5:HS x.o=qT b:=by simp[HS,hb,JH]
  rw[V5]at k1 k2
  have BG:bO (bC R x.o.d v) x.o.g=true:=by rw[lz (R':=R) (hd.sub v).1];exact hw
  have JI:∀H2,ar (bC R x.o.d v) H2 b=ar R H2 b:=fun H2=>qV fun t ht=>(hd.sub v).2 t (by rw[hb];exact ht)
  have Nu:bC R x.o.d v d=v:=by rw[JH,iX]
  rw[←JH]
  have hq:(qT b=.pure∨qT b=.read)→H'=H→Dr P n ops mu w0 df mk g0 ws H0 (pre++[x]) L g (bC R x.o.d v) H' a w:=by
   rintro hk rfl
   refine h.take hd he (.inr ⟨BG,d,b,JH,hb,.inl ⟨hk,by rw[JI,Nu];exact hv⟩⟩) (.inl rfl) fun k hm=>?_
   unfold jZ at hm
   rw[hb]at hm
   split at hm
   ·rename_i h1;cases h1;simp[qT]at hk
   ·rename_i h1;cases h1;simp[qT]at hk
   ·cases hm
  cases hk:qT b with
  | Nl=>exact absurd hk k1
  | pure=>exact hq (.inl hk) (tv hk hv).1
  | read=>exact hq (.inr hk) (tw hk hv).1
  | make =>
   have hln:H0.length≤H.length:=h.fr.1
   cases b<;>simp only[qT]at hk<;>(try (cases hk;done))
   case mU=>split at hk<;>cases hk
   case alloc z =>
    simp only[ar,Option.some.injEq,Prod.mk.injEq]at hv
    obtain⟨rfl,rfl⟩:=hv
    refine h.take hd he (.inr ⟨BG,d,_,JH,hb,.inr (.inl ⟨H.length,z,rfl,Nu,fx _ _,h.sr.IU (Nat.le_refl _),hln⟩)⟩) (.inr ⟨_,rfl,.inl ⟨_,rfl⟩⟩) fun k hm=>?_
    simp only[jZ,JH,hb,iX,mM,Option.some.injEq]at hm
    omega
   case zC =>
    simp only[ar,Option.some.injEq,Prod.mk.injEq]at hv
    obtain⟨rfl,rfl⟩:=hv
    refine h.take hd he (.inr ⟨BG,d,_,JH,hb,.inr (.inr ⟨H.length,rfl,Nu,fx _ _,h.sr.IU (Nat.le_refl _),hln⟩)⟩) (.inr ⟨_,rfl,.inr ⟨_,rfl⟩⟩) fun k hm=>?_
    simp only[jZ,JH,hb,iX,mM,Option.some.injEq]at hm
    omega
theorem Dr.fj (h:Dr P n ops mu w0 df mk g0 ws H0 pre L g R H a w)(hd:Hd P n ops mu pre x o)(hp:∀j∈cC o,L.getD j false=true):gL g w R a (tmpsOf o x.o.op x.o.g) :=
 h.look hd.ho (fun j hj=>⟨(hd.pred j hj).1,hp j hj⟩) (pP hd.co) fun z hz _ d qo ht=>hd.Xq z hz d qo (by rw[hd.ts];exact ht)
theorem Dr.stays (h:Dr P n ops mu w0 df mk g0 ws H0 pre L g R H a w)(hd:Hd P n ops mu pre x o)(he:x.early=false)(hp:∀j∈cC o,L.getD j false=true)(hs:jO R H' x.o.Bh) :
  ∀y∈pre,L.getD y.i false=false→∀d b,bO R y.o.g=true→y.o.d=some d→y.o.op=.b b→qT b=.read→ar R H b=some (R d,H)→ar R H' b=some (R d,H'):=by
 intro y hy hu d b hw Jx hyb hk _
 have zZ:y.early=true:=by cases e:y.early with|true=>rfl|false=>rw[h.qY y hy e]at hu;cases hu
 have Xw:((eX ops.toList []).getD x.i 0).testBit y.i=false:=by
  cases e:((eX ops.toList []).getD x.i 0).testBit y.i with
  | false=>rfl
  | true=>rw[h.bit hd.ho (fun j hj=>⟨(hd.pred j hj).1,hp j hj⟩) e]at hu;cases hu
 have hm:=qZ pre hy zZ Jx hyb hk Xw
 rw[←hd.st he]at hm
 exact hs _ hm hw
end
theorem xe {g:Ctx}{w:World}{n:Nat}:∀(ps:List Nat) (vs:List T) (us:List Value) (R:av) (tmps:Array Value),bF g w vs us→vs.length=ps.length→tmps.size=n→(∀t,t<n→VR g w (R t) (tmps.getD t undef))→(∀p∈ps,p<n) →
  ((ps.zip us).foldl (fun tmps (t,a)=>tmps.setIfInBounds t a) tmps).size=n∧∀t,t<n→VR g w (iP R ps vs t) (((ps.zip us).foldl (fun tmps (t,a)=>tmps.setIfInBounds t a) tmps).getD t undef)
 | [],vs,us,R,tmps,hv,hl,hn,hr,_=>by
  cases vs with
  | nil=>exact⟨by simpa using hn,by simpa[iP]using hr⟩
  | cons _ _=>simp at hl
 | p :: ps,[],us,R,tmps,hv,hl,hn,hr,_=>by simp at hl
 | p :: ps,v :: vs,[],R,tmps,hv,hl,hn,hr,_=>by have:=hv.1;simp at this
 | p :: ps,v :: vs,u :: us,R,tmps,hv,hl,hn,hr,hp=>by
  simp only[List.zip_cons_cons,List.foldl_cons,iP]
  refine xe ps vs us (oH R p v) (tmps.setIfInBounds p u) hv.tail (by simpa using hl) (by simpa using hn) (fun t ht=>?_) (fun q hq=>hp q (by simp[hq]))
  have yc:p<tmps.size:=by rw[hn];exact hp p (by simp)
  by_cases e:p=t
  ·subst e;simp only[oH,if_true];rw[Array.getD_eq_getD_getElem?];simp[yc];exact hv.head
  ·simp only[oH];rw[if_neg (Ne.symm e),Array.getD_eq_getD_getElem?,Array.getElem?_setIfInBounds_ne e,←Array.getD_eq_getD_getElem?];exact hr t ht
section
variable {P:Program} {w0 w ws:World} {g g0:Ctx} {H H0 H':af} {R:av} {a:Act} {n:Nat} {ops:Array Oper} {r:Option Nat} {mu:Bool} {i:Nat} {o:Oper} {st JB:List Rd}
theorem D4 {e:Ex}(h:e≠.normal):(∃id,e=.exit id∧wB (some e)=some (.exit id))∨(e=.ret∧wB (some e)=some .ret):=by
 cases e with
 | normal=>exact absurd rfl h
 | exit id=>exact .inl ⟨id,rfl,rfl⟩
 | ret=>exact .inr ⟨rfl,rfl⟩
theorem xf {d:Option Nat}{x:X}{as:List X}{gd:Gd}{b m:Nat}{R0:av}{ps:List Nat}{b6 body:C}{M1 M:Out→af→Prop}(ho:ops[i]?=some o)(hc:fJ P n ops mu o st=some ⟨d,.bD x as,gd,JB⟩)(hn:a.tmps.size=n)(hr:gL g w R a (tmpsOf o (.bD x as) gd))(hw:bO R gd=true)
  (hx:x.ev R=.nu b) (hb:H[b]?=some (.loop .ready none m R0 ps b6 body)) (hlen:as.length=ps.length) (ck:gp P g) (sr:SR w0 g H w)
  (v8:Xu P (.code b6 (iP R0 ps (as.map (X.ev R)))) H M1) (Bp:∀o H',M1 o H'→(∃R1,o=.ex .normal R1)∧H'[b]?=some (.loop .ready none m R0 ps b6 body))
  (nz:∀R1 H1,M1 (.ex .normal R1) H1→Xu P (.code body R1) (H1.set b (.loop .busy none m R0 ps b6 body)) M) (Bq:∀o H',M o H'→H'[b]?=some (.loop .busy none m R0 ps b6 body))
  {K:Act→World→Prop} {Q:Exit→Act→World→Prop}
  (hk:∀v w' g' H' t,((∃R' H2,M (.ex .normal R') H2∧t=.bool true∧H'=H2.set b (.loop .ready none m R0 ps b6 body))∨(∃e R' H2,M (.ex e R') H2∧e≠.normal∧t=.bool false∧H'=H2.set b (.loop .done (some e) m R0 ps b6 body))) →
   Le g w g' w'→SR w0 g' H' w'→VR g' w' t v→Fr g H g' H'→K (a.put d v) w'):wpOpIn (Fw r) 0 P ops Q i K a w:=by
 obtain⟨Ns,Nt,h1,h2,h3,h4,h5⟩:=bB hc
 cases h3
 refine gU ho hc hn hr hw ⟨fun _ _=>trivial,?_⟩
 have fz:=gT h1
 obtain⟨t,args,iT,rfl,Qv,h6⟩:=mL h1
 have pQ:=lZ hr
 have hv:=fR (ρ:=a.eval) args.toList as h6 (tC (pQ.sub fun t ht=>by
  simp only[fg,List.mem_filterMap]at ht ⊢
  obtain⟨x,hx,e⟩:=ht
  exact⟨x,by rw[Qv];simp only[Op.operands,Call.operands];simp at hx;simp[hx],e⟩))
 have hf:=pQ t (by rw[Qv];simp only[fg,List.mem_filterMap];exact⟨.tmp t,by simp[Op.operands,Call.operands],rfl⟩)
 simp only[X.ev]at hx
 rw[hx]at hf
 generalize Jt:a.tmps.getD t undef=vf at hf
 cases hf with
 | @nu _ l o' q' hφ =>
  obtain⟨k1,rec,k2,k3,k4,k5,k6,k7,k8,k9,k10⟩:=sr.eg b _ hb l o' q' hφ
  rw[Oper.semAt_eq _ _ _ fz]
  have a9:(args.toList.map a.eval).toArray.size=rec.params.size:=by
   have:=hv.1;simp at this
   have e2:rec.params.size=ps.length:=by rw[←k5];simp
   simp[e2,←hlen,this]
  have cy:(execOp a.eval o).run P w=.ok (.round l rec.fn ((rec.params.zip (args.toList.map a.eval).toArray).foldl (fun tmps (t,a)=>tmps.setIfInBounds t a) rec.tmps) rec.assign rec.body) w:=by
   have hy:=run_yield (P:=P) (args:=(args.toList.map a.eval).toArray) k2 a9
   have e2:(args.toList.map a.eval).toArray=args.map a.eval:=by rw[←Array.toList_map]
   rw[e2]at hy ⊢
   have e:a.eval (.tmp t)=.func (.yield l) #[] #[]:=Jt
   simp only[execOp,Qv,resolve,e,Deferred.ofValue,invoke]
   simpa using hy
  rw[cy,Oper.uponIn_round]
  refine⟨fun h=>by simp[Fw]at h,roundIn_of_wpIn trivial ?_⟩
  have CV:(rec.params.zip (args.toList.map a.eval).toArray).foldl (fun tmps (t,a)=>tmps.setIfInBounds t a) rec.tmps=(ps.zip (args.toList.map a.eval)).foldl (fun tmps (t,a)=>tmps.setIfInBounds t a) rec.tmps:=by
   rw[←Array.foldl_toList,Array.toList_zip,k5]
  rw[CV]
  have lk:=xe ps (as.map (X.ev R)) (args.toList.map a.eval) R0 rec.tmps hv (by simpa using hlen) k6 k7 k8
  obtain⟨an1,jl⟩:=(ck _ _ _).1 k9
  obtain⟨an2,oK⟩:=(ck _ _ _).1 k10
  refine wpIn_mono (v8 w0 g w { tmps:=(ps.zip (args.toList.map a.eval)).foldl (fun tmps (t,a)=>tmps.setIfInBounds t a) rec.tmps,defers:=[] } m an1 false rec.assign (some l) jl (by simp) ck sr lk).1 fun e a1 w1 hp=>?_
  obtain⟨ex,R1,g1,H1,e1,hm,fm,Nf,CX,Xx,-,-⟩:=hp
  obtain⟨⟨R1',hR1⟩,kO⟩:=Bp _ _ hm
  cases hR1
  cases e<;>simp only[sQ,Option.some.injEq,reduceCtorEq]at e1
  have Qy:=fm.φ _ _ hφ
  obtain⟨j1,Xy,j2,j3,j4,j5,j6,j7,j8,j9,j10⟩:=Nf.eg b _ kO l o' q' Qy
  refine⟨_,run_beginRound j2 j3,?_⟩
  obtain⟨JJ,LB,Ac⟩:=Nf.uU (y':=.loop .busy none m R0 ps b6 body) (x':=.loop { Xy with state:=.busy }) kO Qy j1 j2 rfl rfl (fun w' le BG r o q hq=>by
   rw[Qy]at hq;cases hq
   exact⟨j1,_,BG,rfl,j4,j5,j6,fun t ht=>(j7 t ht).mono le,j8,j9,j10⟩)
  refine wpIn_mono (nz _ _ hm w0 g1 _ a1 m an2 false rec.body (some l) oK (by simp) (ck.mono fm) LB ⟨CX.1,fun t ht=>(CX.2 t ht).mono JJ⟩).1 fun e2 a2 w3 nA=>?_
  obtain⟨V6,R2,g2,H2,e3,Nv,Ad,B3,yd,CY,-,-⟩:=nA
  have kQ:=Bq _ _ Nv
  have zS:=Ad.φ _ _ Qy
  obtain⟨i1,Xz,i2,i3,i4,i5,i6,i7,i8,i9,i10⟩:=B3.eg b _ kQ l o' q' zS
  have fin:∀(jump:Option Code) (st:ML) (pe:Option Ex) (v:Bool),wB pe=jump→st.real=(if jump.isNone then .ready else .done)→v=jump.isNone →
    ((v=true∧V6=.normal∧st=.ready∧pe=none)∨(v=false∧V6≠.normal∧st=.done∧pe=some V6)) →
    ∃v' w',(Instr.endRound l jump).run P w3=.ok v' w'∧K (a.put o.dst v') w':=by
   intro jump st pe v q1 q2 q3 q4
   obtain⟨HU,HV,CZ⟩:=B3.uU (y':=.loop st pe m R0 ps b6 body) (x':=.loop { Xz with state:=if jump.isNone then .ready else .done,pending:=jump }) kQ zS i1 i2 rfl rfl (fun w' le BG r o q hq=>by
    rw[zS]at hq;cases hq
    exact⟨i1,_,BG,q2.symm,q1.symm,i5,i6,fun t ht=>(i7 t ht).mono le,i8,i9,i10⟩)
   refine⟨_,_,run_endRound jump i2,?_⟩
   refine hk _ _ g2 (H2.set b (.loop st pe m R0 ps b6 body)) (.bool v) ?_ (((fm.trans JJ).trans Ad).trans HU) HV (by rw[←q3];exact .bool v) (((Xx.trans Ac).trans CY).trans CZ)
   rcases q4 with⟨rfl,rfl,rfl,rfl⟩|⟨rfl,bK,rfl,rfl⟩
   ·exact .inl ⟨R2,H2,Nv,rfl,rfl⟩
   ·exact .inr ⟨V6,R2,H2,Nv,bK,rfl,rfl⟩
  cases e2<;>simp only[sQ,Option.some.injEq,reduceCtorEq]at e3<;>subst e3
  case normal=>exact fin none .ready none true rfl rfl rfl (.inl ⟨rfl,rfl,rfl,rfl⟩)
  case exit id=>exact fin (some (.exit id)) .done (some (.exit id)) false rfl rfl rfl (.inr ⟨rfl,by simp,rfl,rfl⟩)
  case ret=>exact fin (some .ret) .done (some .ret) false rfl rfl rfl (.inr ⟨rfl,by simp,rfl,rfl⟩)
end
theorem uX {P:Program}{w0:World}{F:Func}{n:Nat}{t0:T}{res:List Rs}:∀(ts:List T) (df:List Deferred) (bs:List Nat) (g:Ctx) (H:af) (w:World) (R:av) (a:Act) (Rr:Ending→World→Prop),
  xa g ts df→qA ts=some bs→bs.Nodup→(∀b∈bs,H[b]?=some .zE)→SR w0 g H w→hZ g w n R a →
  (∀w' v,Le g w g w'→SR w0 g (kill H bs) w'→hZ g w' n R a→Fr g H g (kill H bs)→(results F a.tmps).run P w'=.ok v w'→VR g w' t0 v→Rr (.returned v) w') →
  p0 R (kill H bs) res=some t0→(∀(g:Ctx) (w:World) (H:af),SR w0 g H w→hZ g w n R a→p0 R H res=some t0→∃v,(results F a.tmps).run P w=.ok v w∧VR g w t0 v) →
  LeavesInM (Fw none) 0 P F a.tmps Rr df .returning w:=by
 intro ts
 induction ts with
 | nil =>
  intro df bs g H w R a Rr hm hb _ _ sr hr hk rf cy
  cases hm
  simp only[qA,Option.some.injEq]at hb;subst hb
  obtain⟨v,h1,h2⟩:=cy g w H sr hr rf
  exact⟨v,h1,hk w v (.refl _ _) sr hr (.refl _ _) h1 h2⟩
 | cons t ts ih =>
  intro df bs g H w R a Rr hm hb fz JK sr hr hk rf cy
  cases hm with
  | @cons b r o q _ df hφ RC =>
   simp only[qA,De]at hb
   split at hb
   ·rename_i b' bs' e1 e2
    cases e1
    cases hb
    have hdb:=JK b (by simp)
    obtain⟨k1,k2⟩:=sr.eg b _ hdb r o q hφ
    obtain⟨le,ju,sg⟩:=sr.uU (y':=.dead) (x':=.deferred none) hdb hφ k1 k2 rfl rfl (fun _ _ _=>trivial)
    refine⟨by simp,.inl ⟨r,_,rfl,run_takeDeferred k2,?_⟩⟩
    simp only[List.nodup_cons]at fz
    refine ih df bs' g (H.set b .dead) _ R a Rr RC e2 fz.2 (fun c hc=>?_) ju ⟨hr.1,fun t ht=>(hr.2 t ht).mono le⟩ (fun w' v JJ LB uY Ac=>hk w' v (le.trans JJ) LB uY (sg.trans Ac)) rf cy
    exact fy (JK c (by simp[hc])) (by rintro rfl;exact fz.1 hc)
   ·cases hb
def xg (tmps:Array Value):ResultVar→Sem Value
 | .tmp t=>pure (tmps.getD t undef)
 | .cell a t=>do loadVar t (←asAddr (tmps.getD a undef))
theorem lC {P:Program}{w0:World}{g:Ctx}{w:World}{H:af}{R:av}{a:Act}{n:Nat}(sr:SR w0 g H w):∀(l:List ResultVar) (res:List Rs) (ts:List T),nQ P l=some res→sF R H res=some ts→(∀t∈res,BP n t=true)→hZ g w n R a →
  ∃vs:List Value,(l.mapM (xg a.tmps)).run P w=.ok vs w∧bF g w ts vs
 | [],res,ts,h,ht,_,_=>by simp[nQ]at h;subst h;simp[sF]at ht;subst ht;exact⟨[],by simp,bF.nil⟩
 | .tmp t :: l,res,ts,h,ht,hn,hr=>by
  simp only[nQ,Option.map_eq_some_iff]at h
  obtain⟨Nw,h1,rfl⟩:=h
  simp only[sF,yp]at ht
  split at ht
  ·rename_i v vs hv iI
   cases ht;cases hv
   obtain⟨us,h2,h3⟩:=lC (P:=P) sr l Nw vs h1 iI (fun t ht=>hn t (by simp[ht])) hr
   exact⟨a.tmps.getD t undef :: us,by rw[List.mapM_cons];simp only[Sem.run_bind,xg,Sem.run_pure,Result.andThen_ok,h2],bF.cons (hr.2 t (by simpa[BP]using hn (.t t) (by simp))) h3⟩
  ·cases ht
 | .cell c t :: l,res,ts,h,ht,hn,hr=>by
  simp only[nQ]at h
  split at h
  ·rename_i d i hu hi
   simp only[Option.map_eq_some_iff]at h
   obtain⟨Nw,h1,rfl⟩:=h
   simp only[sF]at ht
   split at ht
   ·rename_i v vs hv iI
    cases ht
    obtain⟨us,h2,h3⟩:=lC (P:=P) sr l Nw vs h1 iI (fun t ht=>hn t (by simp[ht])) hr
    simp only[yp]at hv
    split at hv
    ·rename_i cs uM
     have hc:=hr.2 c (by simpa[BP]using hn (.cl c (if et d=true then i.size else 1) (et d)) (by simp))
     obtain⟨u,w',g',cy,hw,fP,hg⟩:=Iz (P:=P) hu hi rfl (fun e=>by rw[if_pos e]) sr hc uM hv
     subst hw;subst hg
     obtain⟨r,o,us0,hp,_⟩:=oP sr hc uM
     have RE:(xg a.tmps (.cell c t)).run P w'=.ok u w':=by
      rw[←cy,hp]
      have e:xg a.tmps (.cell c t)=(asAddr (a.tmps.getD c undef) >>= fun x=>loadVar t x):=rfl
      rw[e,hp]
      simp only[asAddr,Instr.loadAt,Instr.sureAddr,Sem.run_bind,Sem.run_pure,Result.andThen_ok]
     exact⟨u :: us,by rw[List.mapM_cons];simp only[Sem.run_bind,RE,Result.andThen_ok,h2,Sem.run_pure],bF.cons fP h3⟩
    ·cases hv
   ·cases ht
  ·cases h
theorem rh {P:Program}{fn:Func}{w0:World}{g:Ctx}{w:World}{H:af}{R:av}{a:Act}{n:Nat}{res:List Rs}{t:T}(sr:SR w0 g H w)(h:nQ P fn.results.toList=some res)(hn:∀t∈res,BP n t=true)(hr:hZ g w n R a)(ht:p0 R H res=some t):∃v,(results fn a.tmps).run P w=.ok v w∧VR g w t v:=by
 simp only[p0,Option.map_eq_some_iff]at ht
 obtain⟨ts,ht,rfl⟩:=ht
 obtain⟨vs,h1,h2⟩:=lC (P:=P) sr fn.results.toList res ts h ht hn hr
 have hl:ts.length=vs.length:=h2.1
 have e:results fn a.tmps=(fn.results.mapM (xg a.tmps) >>= fun vs=>pure (if h:vs.size=1 then vs[0]else .tuple vs)):=rfl
 refine⟨if h:vs.toArray.size=1 then vs.toArray[0]else .tuple vs.toArray,?_,?_⟩
 ·rw[e,Array.mapM_eq_mapM_toList]
  simp only[Sem.run_bind,Sem.run_map,map_eq_pure_bind,h1,Result.andThen_ok,Sem.run_pure]
 ·match ts,vs,hl,h2 with
  | [],[],_,_=>exact .bJ rfl (by simp)
  | [t],[v],_,h2=>simpa[Bl]using h2.head
  | t :: t' :: ts,v :: v' :: vs,_,h2 =>
   have:¬(v :: v' :: vs).toArray.size=1:=by simp
   rw[dif_neg this]
   simpa[Bl]using h2.bJ
theorem gq {P:Program}{n:Nat}{ops:Array Oper}{mu:Bool}{o:Oper}{st:List Rd}{y:O}(h:fJ P n ops mu o st=some y):y.d≠some n:=by
 obtain⟨_,_,_,_,e,_,h5⟩:=bB h
 subst e
 exact fun e=>Nat.lt_irrefl n (h5 n e)
theorem Ae {P:Program}{n:Nat}{ops:Array Oper}{mu:Nat→Bool}{w0 w ws w':World}{df:List Deferred}{mk:T}{g g0 g':Ctx}{H H0 H':af}{pre XA:List It}{L L':Array Bool}{R R':av}{a a':Act}
  (h:Dr P n ops mu w0 df mk g0 ws H0 pre L g R H a w) (h':Dr P n ops mu w0 df mk g0 ws H0 XA L' g' R' H' a' w') (ck:gp P g):gp P g':=fun n c k=>by rw[h'.le.ck,←h.le.ck];exact ck n c k
theorem rl {P:Program}{an:An}{f:FuncId}{fn:Fn}(ye:aj P an f=some fn):∃F code res body,P.funcs[f]?=some F∧F.body=some code∧nQ P F.results.toList=some res∧bE P F.ntmps an true code=some body ∧
  dH P f=true∧F.params.size+F.nfree≤F.ntmps∧(∀t∈res,BP F.ntmps t=true)∧fn=⟨F.ntmps,F.params.size+F.nfree,res,body⟩:=by
 unfold aj at ye
 cases hF:P.funcs[f]? with
 | none=>simp[hF]at ye
 | some F =>
  simp only[hF]at ye
  split at ye
  ·rename_i code res hb rf
   split at ye
   ·rename_i c uR
    split at ye
    ·rename_i hk
     simp only[Bool.and_eq_true,decide_eq_true_eq,List.all_eq_true]at hk
     obtain⟨⟨jY,a9⟩,aw⟩:=hk
     cases ye
     exact⟨F,code,res,c,rfl,hb,rf,uR,jY,a9,aw,rfl⟩
    ·cases ye
   ·cases ye
  ·cases ye
theorem rm {F:Func}{g:Ctx}{w:World}{as:List T}{args:List Value}(hv:bF g w as args){k:Nat}(hn:as.length=k)(a9:k≤F.ntmps) :
  hZ g w F.ntmps (gF as) { tmps:=args.toArray++Array.replicate (F.ntmps-args.toArray.size) undef,defers:=[] }:=by
 have Nx:args.length=as.length:=hv.1.symm
 refine⟨by simp[Nx,hn];omega,fun t ht=>?_⟩
 by_cases V7:t<as.length
 ·simp only[gF]
  rw[List.getD_eq_getElem?_getD,List.getElem?_eq_getElem V7,Option.getD_some]
  rw[Array.getD_eq_getD_getElem?,Array.getElem?_append_left (by simpa[Nx]using V7)]
  simp only[List.getElem?_toArray,List.getElem?_eq_getElem (Nx▸V7:t<args.length),Option.getD_some]
  exact hv.2 t _ _ (List.getElem?_eq_getElem V7) (List.getElem?_eq_getElem _)
 ·simp only[gF]
  rw[List.getD_eq_getElem?_getD,List.getElem?_eq_none (by omega),Option.getD_none]
  rw[Array.getD_eq_getD_getElem?,Array.getElem?_append_right (by simp[Nx];omega),Array.getElem?_replicate]
  split<;>exact hO
theorem lB.RF {w0 w:World}{n:Nat}{hr oJ:Bool}{df:List Deferred}{mk:T}{g:Ctx}{H:af}{Q:Out→af→Prop}(hh:hr=false→oJ=false){e:Exit}{a:Act}{u:World}(h:lB w0 n oJ df mk g w H Q e a u):lB w0 n hr df mk g w H Q e a u :=
 h.trans (.refl _ _) (.refl _ _) id fun e=>⟨hh e,rfl,rfl⟩
theorem W.sim {P:Program}{E:Env}(hE:z8 P E){j:J}{H:af}{Q:Out→af→Prop}(h:W E j H Q):Xu P j H Q:=by
 induction h with
 | @skip R H Q h =>
  intro w0 g w a n an top code r hc ht ck sr hr
  obtain rfl:=D0 hc
  exact⟨wpIn_skip ⟨.normal,R,g,H,rfl,h,.refl _ _,sr,hr,.refl _ _,id,fun _=>⟨rfl,rfl⟩⟩,by rintro _⟨⟩⟩
 | @exit id R H Q h =>
  intro w0 g w a n an top code r hc ht ck sr hr
  obtain rfl:=D1 hc
  exact⟨wpIn_exit ⟨.exit id,R,g,H,rfl,h,.refl _ _,sr,hr,.refl _ _,fun m=>m,fun _=>⟨rfl,rfl⟩⟩,by rintro _⟨⟩⟩
 | @ret R H Q h =>
  intro w0 g w a n an top code r hc ht ck sr hr
  obtain rfl:=JC hc
  exact⟨wpIn_ret ⟨.ret,R,g,H,rfl,h,.refl _ _,sr,hr,.refl _ _,id,fun _=>⟨rfl,rfl⟩⟩,by rintro _⟨⟩⟩
 | @Qg l R H Q _ ih =>
  intro w0 g w a n an top code r hc ht ck sr hr
  obtain⟨id,ops,mu,⟨rfl,h1⟩|⟨rfl,ord,jW,h1,h2⟩⟩:=JE hc
  ·exact⟨wpIn_mono (wpIn_region (ih.1 w0 g w H g w a n ops mu _ r h1 ck sr hr (.refl _ _) (.refl _ _))) fun e a w hp=>hp.toC,by rintro _⟨⟩⟩
  ·refine⟨wpIn_mono (wpIn_region_any (Q:=yQ w0 n a.defers (R n) g w H Q) hE.mixed ?_) fun e a w hp=>hp.toC,by rintro _⟨⟩⟩
   obtain⟨ju,le⟩:=sr.drew (w':={ w with drawn:=w.drawn+1 }) (Tr.drew w) rfl
   have hd:=Dr.init (ops:=ops) (mu:=mu) (P:=P) (mk:=R n) ju hr.1 rfl (fun t ht=>(hr.2 t ht).mono le) le (.refl g H)
   refine ih.2 w0 n ops mu a.defers (R n) g w H [] _ g a _ ord jW r ops.size ck h1 h2 hd ?_
   exact Nat.le_trans (List.count_le_length) (by simp)
 | @seq x y R H Q M _ h2 h3 v8 nz =>
  intro w0 g w a n an top code r hc ht ck sr hr
  obtain⟨c,d,rfl,k1,k2⟩:=JD hc
  refine⟨wpIn_seq (wpIn_mono (v8 w0 g w a n an top c r k1 ht ck sr hr).1 fun e a' w' hp=>?_),by rintro _⟨⟩⟩
  have hb:(C.seq x y).mz=false→x.mz=false∧y.mz=false:=by simp[C.mz]
  obtain⟨ex,R',g',H',e1,hm,le,ju,oJ,fr,vZ,Af⟩:=hp
  cases e<;>simp only[sQ,Option.some.injEq,reduceCtorEq]at e1<;>subst e1
  case normal =>
   exact wpIn_mono (nz R' H' hm w0 g' w' a' n an top d r k2 ht (ck.mono le) ju oJ).1 fun e a2 w2 hp=>hp.trans le fr vZ fun e=>⟨(hb e).2,Af (hb e).1⟩
  case exit id=>exact⟨_,R',g',H',rfl,h3 _ _ hm (by simp),le,ju,oJ,fr,vZ,fun e=>Af (hb e).1⟩
  case ret=>exact⟨_,R',g',H',rfl,h3 _ _ hm (by simp),le,ju,oJ,fr,vZ,fun e=>Af (hb e).1⟩
 | @cond x c d R H Q t hx _ ih =>
  intro w0 g w a n an top code r hc ht ck sr hr
  obtain⟨o,d',e',rfl,k1,k2,k3,k4⟩:=D2 hc
  refine⟨wpIn_cond (t:=t) ?_ ?_,by rintro _⟨⟩⟩
  ·have hv:VR g w (.bool t) (a.eval o):=by
    cases o with
    | tmp u=>simp only[aP,Option.some.injEq]at k1;subst k1;simp only[X.ev]at hx;rw[←hx];exact hr.2 u (k4 u rfl)
    | const v =>
     simp only[aP,Option.map_eq_some_iff]at k1
     obtain⟨u,h1,rfl⟩:=k1
     simp only[X.ev]at hx;subst hx
     exact lS h1
    | «global» _=>simp[aP]at k1
    | func f=>simp only[aP,Option.some.injEq]at k1;subst k1;simp[X.ev]at hx
   generalize a.eval o=v at hv
   cases hv;rfl
  ·cases t
   ·exact wpIn_mono (ih w0 g w a n an top e' r k3 ht ck sr hr).1 fun e a w hp=>hp.RF (by simp[C.mz])
   ·exact wpIn_mono (ih w0 g w a n an top d' r k2 ht ck sr hr).1 fun e a w hp=>hp.RF (by simp[C.mz];intro h _;exact h)
 | @block id x R H Q M _ h2 h3 ih =>
  intro w0 g w a n an top code r hc ht ck sr hr
  obtain⟨c,rfl,k1⟩:=B1 hc
  refine⟨wpIn_block (wpIn_mono (ih w0 g w a n an top c r k1 ht ck sr hr).1 fun e a' w' hp=>?_),by rintro _⟨⟩⟩
  obtain⟨ex,R',g',H',e1,hm,le,ju,oJ,fr,Af⟩:=hp
  cases e<;>simp only[sQ,Option.some.injEq,reduceCtorEq]at e1<;>subst e1
  case normal=>exact⟨_,R',g',H',rfl,h3 _ _ hm (by simp),le,ju,oJ,fr,Af⟩
  case exit id' =>
   simp only[Exit.inBlock]
   split
   ·rename_i e;subst e;exact⟨_,R',g',H',rfl,h2 _ _ hm,le,ju,oJ,fr,Af⟩
   ·rename_i e;exact⟨_,R',g',H',rfl,h3 _ _ hm (fun R2 e2=>by cases e2;exact e rfl),le,ju,oJ,fr,Af⟩
  case ret=>exact⟨_,R',g',H',rfl,h3 _ _ hm (by simp),le,ju,oJ,fr,Af⟩
 | @loop x R H Q M _ h2 h3 v8 nz =>
  intro w0 g w a n an top code r hc ht ck sr hr
  obtain⟨c,rfl,k1⟩:=D3 hc
  have key:ra (Fw r) 0 P c (lB w0 n x.loop.mz a.defers (R n) g w H Q) a w:=by
   refine xb (wpIn_mono (v8 w0 g w a n an top c r k1 ht ck sr hr).1 fun e a' w' hp=>?_)
   obtain⟨ex,R',g',H',e1,hm,le,ju,oJ,fr,vZ,Af⟩:=hp
   cases e<;>simp only[sQ,Option.some.injEq,reduceCtorEq]at e1<;>subst e1
   case normal =>
    have:=(nz R' H' hm w0 g' w' a' n an top (.loop c) r hc ht (ck.mono le) ju oJ).2 c rfl
    intro b k cs h1 h2 h4
    obtain⟨e,a2,w2,hq,nO⟩:=this b k cs h1 h2 h4
    exact⟨e,a2,w2,hq.trans le fr vZ fun e=>⟨e,Af e⟩,nO⟩
   case exit id=>exact⟨_,R',g',H',rfl,h3 _ _ hm (by simp),le,ju,oJ,fr,vZ,Af⟩
   case ret=>exact⟨_,R',g',H',rfl,h3 _ _ hm (by simp),le,ju,oJ,fr,vZ,Af⟩
  exact⟨BZ key,fun body e=>by cases e;exact key⟩
 | @cL m x ps b6 body R H Q f cs M hx _ h2 ih =>
  intro w0 g w a n an top code r hc ht ck sr hr
  obtain⟨XB,qs,c,d,rfl,k1,k2,k3,k4,k5,rfl,k7,rfl⟩:=B2 hc
  obtain rfl:=ht k4
  refine⟨wpIn_rangeFunc fun fn _=>?_,by rintro _⟨⟩⟩
  have hv:VR g w (.fn f cs) (a.eval XB):=by
   cases XB with
   | tmp u=>simp only[aP,Option.some.injEq]at k1;subst k1;simp only[X.ev]at hx;rw[←hx];exact hr.2 u (k5 u (by simp[dV]))
   | const v =>
    simp only[aP,Option.map_eq_some_iff]at k1
    obtain⟨u,h1,rfl⟩:=k1
    simp only[X.ev]at hx;subst hx
    exact lS h1
   | «global» _=>simp[aP]at k1
   | func f'=>simp only[aP,Option.some.injEq]at k1;subst k1;simp only[X.ev]at hx;cases hx;exact .fn rfl (by simp)
  generalize hgv:a.eval XB=vf at hv
  cases hv with
  | @fn _ _ vs hl uM =>
   obtain⟨g1,fm,Nf,Xx,Qy⟩:=sr.DN (x:=.deferred (some [])) (y:=.zE) rfl (fun g' w' _ q1 q2 q3 r o q hq=>by rw[q2]at hq;cases hq;exact⟨q1,q3⟩)
   have a9:(w.alloc (.deferred (some []))).heap.size=w.heap.size+1:=by simp
   obtain⟨g2,JJ,LB,Ac,zS⟩:=Nf.DN (x:=.loop { state:=.ready,pending:=none,fn,tmps:=a.tmps,params:=qs,assign:=c,body:=d,defers:=w.heap.size }) (y:=.loop .ready none m R qs.toList b6 body) rfl
    (fun g' w' le q1 q2 q3 r o q hq=>by
     rw[q2]at hq;cases hq
     refine⟨q1,_,q3,rfl,rfl,rfl,hr.1,fun t ht=>((hr.2 t ht).mono fm).mono le,k7,?_,?_⟩
     ·rw[le.ck,fm.ck];exact(ck _ _ _).2 ⟨an,k2⟩
     ·rw[le.ck,fm.ck];exact(ck _ _ _).2 ⟨an,k3⟩)
   rw[a9]at zS
   have hlen:(H++[B.zE]).length=H.length+1:=by simp
   rw[hlen]at zS
   have rn:H++[B.zE]++[B.loop .ready none m R qs.toList b6 body]=H++[.zE,.loop .ready none m R qs.toList b6 body]:=by simp
   rw[rn]at LB Ac
   have Ny:=fm.trans JJ
   have RG:bF g2 ((w.alloc (.deferred (some []))).alloc (.loop { state:=.ready,pending:=none,fn,tmps:=a.tmps,params:=qs,assign:=c,body:=d,defers:=w.heap.size })) (.nu (H.length+1) :: cs) (.func (.yield (w.heap.size+1)) #[] #[] :: vs.toList) :=
    bF.cons (.nu zS) ⟨by simp[hl],fun i t v ha hb=>(uM i t v ha (by simpa using hb)).mono Ny⟩
   obtain⟨jY,D5⟩:=ih w0 g2 _ _ (ck.mono Ny) LB RG
   refine⟨w.heap.size+1,[{ target:=.collected w.heap.size,args:=#[] }],((w.alloc (.deferred (some []))).alloc (.loop { state:=.ready,pending:=none,fn,tmps:=a.tmps,params:=qs,assign:=c,body:=d,defers:=w.heap.size })),{ target:=.fn (.func f) vs,args:=#[.func (.yield (w.heap.size+1)) #[] #[]] },((w.alloc (.deferred (some []))).alloc (.loop { state:=.ready,pending:=none,fn,tmps:=a.tmps,params:=qs,assign:=c,body:=d,defers:=w.heap.size })),f,#[.func (.yield (w.heap.size+1)) #[] #[]]++vs,((w.alloc (.deferred (some []))).alloc (.loop { state:=.ready,pending:=none,fn,tmps:=a.tmps,params:=qs,assign:=c,body:=d,defers:=w.heap.size })),run_enterLoop_outer _ _ _ _ _,?_,fun _ _=>trivial,?_,fun h=>by simp[Fw]at h,?_⟩
   ·simp only[resolve,hgv,Deferred.ofValue]
    simp[Act.eval]
   ·exact jX jY
   ·have e3:(.func (.yield (w.heap.size+1)) #[] #[] :: vs.toList:List Value).toArray=#[.func (.yield (w.heap.size+1)) #[] #[]]++vs:=by simp
    rw[e3]at D5
    refine D5.mono fun e w3 ⟨v,t,g3,H3,he,hM,Ad,B3,_,CY⟩=>?_
    subst he
    obtain⟨st,fE,dD,V8,C0,hQ⟩:=h2 _ _ hM
    have hφ3:=Ad.φ _ _ zS
    obtain⟨j1,rec,j2,j3,j4,j5,j6,j7,j8,j9,j10⟩:=B3.eg _ _ C0 _ _ _ hφ3
    obtain⟨HU,HV,CZ⟩:=B3.uU (y':=.dead) (x':=.loop { rec with state:=.exhausted }) C0 hφ3 j1 j2 rfl rfl (fun _ _ _=>trivial)
    refine⟨_,_,run_endLoop j2 (by rw[j3];cases st<;>simp[ML.real]at dD ⊢),?_⟩
    generalize w3.putObj (w.heap.size+1) (.loop { rec with state:=.exhausted })=W4 at HU HV ⊢
    rw[j4]
    have Nz:=(Ny.trans Ad).trans HU
    have hFr:Fr g H g3 (H3.set (H.length+1) .dead):=by
     have:=(Xx.trans Ac).trans (CY.trans CZ)
     exact this
    have post:∀e,sQ e=some (Df fE)→lB w0 m (C.cL m x qs.toList b6 body).mz a.defers (R m) g w H Q e { a with defers:=[{ target:=.collected w.heap.size,args:=#[] }]++a.defers } W4:=by
     intro e he
     refine⟨_,_,g3,_,he,hQ,Nz,HV,⟨hr.1,fun t ht=>?_⟩,hFr,fun hm=>?_,fun h=>by simp[C.mz]at h⟩
     ·simp only[oH];rw[if_neg (Nat.ne_of_lt ht)];exact(hr.2 t ht).mono Nz
     ·obtain⟨ts,e1,e2⟩:=hm
      refine⟨.ptr H.length 0 :: ts,by simp[oH,e1,nD],.cons (((JJ.trans Ad).trans HU).φ _ _ Qy) (e2.mono Nz)⟩
    cases hp:fE with
    | none=>simp only[wB];exact post .normal (by rw[hp];rfl)
    | some e =>
     rcases D4 (e:=e) (by rintro rfl;exact V8 hp)with⟨id,rfl,e5⟩|⟨rfl,e5⟩
     ·simp only[e5];exact wpIn_exit (post (.exit id) (by rw[hp];rfl))
     ·simp only[e5];exact wpIn_ret (post .ret (by rw[hp];rfl))
 | @nil R H Q h =>
  refine⟨fun w0 g0 ws H0 g w a n ops mu is r hc ck sr hr le fr=>?_,fun w0 n ops mu df mk g0 ws H0 pre L g a w ord jW r fuel ck h1 h2 hd hl=>?_⟩
  ·obtain rfl:=xd hc
   exact⟨.normal,R,g,H,rfl,h,le,sr,hr,fr,rfl,rfl⟩
  ·have cJ:=cZ ord pre jW h1
   cases jW with
   | cons _ _=>simp at h2
   | nil=>exact B0 (by simpa using cJ) h fuel L g a w hl hd
 | @no o l R H Q hg _ ih =>
  refine⟨fun w0 g0 ws H0 g w a n ops mu is r hc ck sr hr le fr=>?_,fun w0 n ops mu df mk g0 ws H0 pre L g a w ord jW r fuel ck h1 h2 hd hl=>?_⟩
  ·obtain⟨i,tJ,oper,rfl,ho,fG,fI⟩:=dE hc
   rw[wpOpsIn_cons]
   refine z9 ho fG hr.1 (hr.rg (pP fG)) hg ?_
   have:=ih.1 w0 g0 ws H0 g w (a.put o.d undef) n ops mu tJ r fI ck sr (hr.put (by obtain⟨_,_,_,_,e,_,h5⟩:=bB fG;rw[e];exact h5) (.refl _ _) hO) le fr
   rwa[jn,cD (gq fG)]at this
  ·obtain⟨x,l',fT,oper,rfl,rfl,h3,hh,h4⟩:=ib h1 h2
   cases he:x.early with
   | true=>exact ih.2 w0 n ops mu df mk g0 ws H0 _ L g a w fT l' r fuel ck h4 h3 (hd.JF hh he hg) hl
   | false =>
    refine fh (Tl:=fun R' H'=>R'=bC R x.o.d b0∧H'=H) hh he (cZ ord pre _ h1) (dB fT _ l' h4) ?_ ?_ fuel L g a w hl hd
    ·rintro R' H'⟨rfl,rfl⟩ fuel L' g' a' w' hL gM
     exact ih.2 w0 n ops mu df mk g0 ws H0 _ L' g' a' w' fT l' r fuel (Ae hd gM ck) h4 h3 gM hL
    ·intro L g a w hd hp K hK
     exact z9 hh.ho hh.co hd.v7 (hd.fj hh hp) hg (hK _ _ g _ w ⟨rfl,rfl⟩ (hd.both hh he hp (.refl _ _) hd.sr hO (.refl _ _) fun _ _ _ _ _ _ _ _ _ e=>e))
 | @op d b gd s l R H Q v H' hg hv hs _ ih =>
  refine⟨fun w0 g0 ws H0 g w a n ops mu is r hc ck sr hr le fr=>?_,fun w0 n ops mu df mk g0 ws H0 pre L g a w ord jW r fuel ck h1 h2 hd hl=>?_⟩
  ·obtain⟨i,tJ,oper,rfl,ho,fG,fI⟩:=dE hc
   rw[wpOpsIn_cons]
   obtain⟨u,w',g',bV,m5,ju,fP,sg⟩:=Aa (r:=r) ho fG hr.1 (hr.rg (pP fG)) hg sr hv
   refine bV _ _ ?_
   have:=ih.1 w0 g0 ws H0 g' w' (a.put d u) n ops mu tJ r fI (ck.mono m5) ju (hr.put (by obtain⟨_,_,_,_,e,_,h5⟩:=bB fG;cases e;exact h5) m5 fP) (le.trans m5) (fr.trans sg)
   rwa[jn,cD (gq fG)]at this
  ·obtain⟨x,l',fT,oper,rfl,nT,h3,hh,h4⟩:=ib h1 h2
   have C1:x.o.d=d:=by rw[nT]
   cases he:x.early with
   | true =>
    have:=hd.JG hh he (b:=b) (by rw[nT]) (by rw[nT];exact hg) hv
    rw[C1]at this
    exact ih.2 w0 n ops mu df mk g0 ws H0 _ L g a w fT l' r fuel ck h4 h3 this hl
   | false =>
    refine fh (Tl:=fun R' H2=>R'=bC R d v∧H2=H') hh he (cZ ord pre _ h1) (dB fT _ l' h4) ?_ ?_ fuel L g a w hl hd
    ·rintro R' H'⟨rfl,rfl⟩ fuel L' g' a' w' hL gM
     exact ih.2 w0 n ops mu df mk g0 ws H0 _ L' g' a' w' fT l' r fuel (Ae hd gM ck) h4 h3 gM hL
    ·intro L2 g2 a2 w2 cr hp K hK
     have LC:gp P g2:=Ae hd cr ck
     have fG:=hh.co
     have pQ:=cr.fj hh hp
     have dD:=cr.stays hh he hp (H':=H') (by rw[nT];exact hs)
     rw[nT]at fG pQ
     obtain⟨u,w',g',bV,m5,ju,fP,sg⟩:=Aa (r:=r) hh.ho fG cr.v7 pQ hg cr.sr hv
     refine bV _ _ (hK _ _ g' _ w' ⟨rfl,rfl⟩ ?_)
     have:=cr.both hh he hp m5 ju fP sg dD
     rwa[C1]at this
 | @call d f as gd s l R H Q M hg _ hs h2 v8 nz =>
  refine⟨fun w0 g0 ws H0 g w a n ops mu is r hc ck sr hr le fr=>?_,fun w0 n ops mu df mk g0 ws H0 pre L g a w ord jW r fuel ck h1 h2 hd hl=>?_⟩
  ·obtain⟨i,tJ,oper,rfl,ho,fG,fI⟩:=dE hc
   rw[wpOpsIn_cons]
   refine tG (r:=r) ho fG hr.1 (hr.rg (pP fG)) hg (fun args hv=>v8 w0 g w args ck sr hv) fun u w' g' H' t hM m5 ju fP sg=>?_
   have:=(nz t H' hM).1 w0 g0 ws H0 g' w' (a.put d u) n ops mu tJ r fI (ck.mono m5) ju (hr.put (by obtain⟨_,_,_,_,e,_,h5⟩:=bB fG;cases e;exact h5) m5 fP) (le.trans m5) (fr.trans sg)
   rwa[jn,cD (gq fG)]at this
  ·obtain⟨x,l',fT,oper,rfl,nT,h3,hh,h4⟩:=ib h1 h2
   have C1:x.o.d=d:=by rw[nT]
   cases he:x.early with
   | true=>exact absurd (by rw[nT];rfl) (hh.kl he).1
   | false =>
    refine fh (Tl:=fun R' H2=>∃v,M (.val v) H2∧R'=bC R d v) hh he (cZ ord pre _ h1) (dB fT _ l' h4) ?_ ?_ fuel L g a w hl hd
    ·rintro R' H'⟨v,hM,rfl⟩ fuel L' g' a' w' hL gM
     exact(nz v H' hM).2 w0 n ops mu df mk g0 ws H0 _ L' g' a' w' fT l' r fuel (Ae hd gM ck) h4 h3 gM hL
    ·intro L2 g2 a2 w2 cr hp K hK
     have LC:gp P g2:=Ae hd cr ck
     have fG:=hh.co
     have pQ:=cr.fj hh hp
     rw[nT]at fG pQ
     refine tG (r:=r) hh.ho fG cr.v7 pQ hg (fun args hv=>v8 w0 g2 w2 args LC cr.sr hv) fun u w' g' H' t hM m5 ju fP sg=>hK _ H' g' _ w' ⟨t,hM,rfl⟩ ?_
     have dD:=cr.stays hh he hp (H':=H') (by rw[nT];exact hs t H' hM)
     have:=cr.both hh he hp m5 ju fP sg dD
     rwa[C1]at this
 | @bD d xx f cs as gd s l R H Q M hg hf _ hs h2 v8 nz =>
  refine⟨fun w0 g0 ws H0 g w a n ops mu is r hc ck sr hr le fr=>?_,fun w0 n ops mu df mk g0 ws H0 pre L g a w ord jW r fuel ck h1 h2 hd hl=>?_⟩
  ·obtain⟨i,tJ,oper,rfl,ho,fG,fI⟩:=dE hc
   rw[wpOpsIn_cons]
   refine rb (r:=r) ho fG hr.1 (hr.rg (pP fG)) hg hf (fun args hv=>v8 w0 g w args ck sr hv) fun u w' g' H' t hM m5 ju fP sg=>?_
   have:=(nz t H' hM).1 w0 g0 ws H0 g' w' (a.put d u) n ops mu tJ r fI (ck.mono m5) ju (hr.put (by obtain⟨_,_,_,_,e,_,h5⟩:=bB fG;cases e;exact h5) m5 fP) (le.trans m5) (fr.trans sg)
   rwa[jn,cD (gq fG)]at this
  ·obtain⟨x,l',fT,oper,rfl,nT,h3,hh,h4⟩:=ib h1 h2
   have C1:x.o.d=d:=by rw[nT]
   cases he:x.early with
   | true=>exact absurd (by rw[nT];rfl) (hh.kl he).1
   | false =>
    refine fh (Tl:=fun R' H2=>∃v,M (.val v) H2∧R'=bC R d v) hh he (cZ ord pre _ h1) (dB fT _ l' h4) ?_ ?_ fuel L g a w hl hd
    ·rintro R' H'⟨v,hM,rfl⟩ fuel L' g' a' w' hL gM
     exact(nz v H' hM).2 w0 n ops mu df mk g0 ws H0 _ L' g' a' w' fT l' r fuel (Ae hd gM ck) h4 h3 gM hL
    ·intro L2 g2 a2 w2 cr hp K hK
     have LC:gp P g2:=Ae hd cr ck
     have fG:=hh.co
     have pQ:=cr.fj hh hp
     rw[nT]at fG pQ
     refine rb (r:=r) hh.ho fG cr.v7 pQ hg hf (fun args hv=>v8 w0 g2 w2 args LC cr.sr hv) fun u w' g' H' t hM m5 ju fP sg=>hK _ H' g' _ w' ⟨t,hM,rfl⟩ ?_
     have dD:=cr.stays hh he hp (H':=H') (by rw[nT];exact hs t H' hM)
     have:=cr.both hh he hp m5 ju fP sg dD
     rwa[C1]at this
 | @nu d xx b as gd s l R H Q m R0 ps b6 body M1 M hg hf hb hn _ Bp _ Bq zG _ CP _ v8 nz Qz QA =>
  refine⟨fun w0 g0 ws H0 g w a n ops mu is r hc ck sr hr le fr=>?_,fun w0 n ops mu df mk g0 ws H0 pre L g a w ord jW r fuel ck h1 h2 hd hl=>?_⟩
  ·obtain⟨i,tJ,oper,rfl,ho,fG,fI⟩:=dE hc
   rw[wpOpsIn_cons]
   refine xf (r:=r) ho fG hr.1 (hr.rg (pP fG)) hg hf hb hn ck sr v8 Bp nz Bq fun u w' g' H' t yz m5 ju fP sg=>?_
   have RH:=hr.put (d:=d) (by obtain⟨_,_,_,_,e,_,h5⟩:=bB fG;cases e;exact h5) m5 fP
   rcases yz with⟨R',H2,hM,rfl,rfl⟩|⟨e,R',H2,hM,bK,rfl,rfl⟩
   ·have:=(Qz R' H2 hM).1 w0 g0 ws H0 g' w' (a.put d u) n ops mu tJ r fI (ck.mono m5) ju RH (le.trans m5) (fr.trans sg)
    rwa[jn,cD (gq fG)]at this
   ·have:=(QA e R' H2 hM bK).1 w0 g0 ws H0 g' w' (a.put d u) n ops mu tJ r fI (ck.mono m5) ju RH (le.trans m5) (fr.trans sg)
    rwa[jn,cD (gq fG)]at this
  ·obtain⟨x,l',fT,oper,rfl,nT,h3,hh,h4⟩:=ib h1 h2
   have C1:x.o.d=d:=by rw[nT]
   cases he:x.early with
   | true=>exact absurd (by rw[nT];rfl) (hh.kl he).1
   | false =>
    refine fh (Tl:=fun R' H'=>(∃R2 H2,M (.ex .normal R2) H2∧R'=bC R d (.bool true)∧H'=H2.set b (.loop .ready none m R0 ps b6 body))∨(∃e R2 H2,M (.ex e R2) H2∧e≠.normal∧R'=bC R d (.bool false)∧H'=H2.set b (.loop .done (some e) m R0 ps b6 body)))
     hh he (cZ ord pre _ h1) (dB fT _ l' h4) ?_ ?_ fuel L g a w hl hd
    ·rintro R' H' (⟨R2,H2,hM,rfl,rfl⟩|⟨e,R2,H2,hM,bK,rfl,rfl⟩) fuel L' g' a' w' hL gM
     ·exact(Qz R2 H2 hM).2 w0 n ops mu df mk g0 ws H0 _ L' g' a' w' fT l' r fuel (Ae hd gM ck) h4 h3 gM hL
     ·exact(QA e R2 H2 hM bK).2 w0 n ops mu df mk g0 ws H0 _ L' g' a' w' fT l' r fuel (Ae hd gM ck) h4 h3 gM hL
    ·intro L2 g2 a2 w2 cr hp K hK
     have LC:gp P g2:=Ae hd cr ck
     have fG:=hh.co
     have pQ:=cr.fj hh hp
     rw[nT]at fG pQ
     refine xf (r:=r) hh.ho fG cr.v7 pQ hg hf hb hn LC cr.sr v8 Bp nz Bq fun u w' g' H' t yz m5 ju fP sg=>?_
     have kQ:∀(hs:jO R H' s),Dr P n ops mu w0 df mk g0 ws H0 (pre++[x]) (L2.setIfInBounds x.i true) g' (bC R d t) H' (a2.put d u) w':=fun hs=>by
      have dD:=cr.stays hh he hp (H':=H') (by rw[nT];exact hs)
      have:=cr.both hh he hp m5 ju fP sg dD
      rwa[C1]at this
     rcases yz with⟨R',H2,hM,rfl,rfl⟩|⟨e,R',H2,hM,bK,rfl,rfl⟩
     ·exact hK _ _ g' _ w' (.inl ⟨R',H2,hM,rfl,rfl⟩) (kQ (zG R' H2 hM))
     ·exact hK _ _ g' _ w' (.inr ⟨e,R',H2,hM,bK,rfl,rfl⟩) (kQ (CP e R' H2 hM bK))
 | @Bn d neg c xx yy s l R H Q hs _ hx hy hc ih =>
  subst hc
  subst hs
  refine⟨fun w0 g0 ws H0 g w a n ops mu is r hc ck sr hr le fr=>?_,fun w0 n ops mu df mk g0 ws H0 pre L g a w ord jW r fuel ck h1 h2 hd hl=>?_⟩
  ·obtain⟨i,tJ,oper,rfl,ho,fG,fI⟩:=dE hc
   rw[wpOpsIn_cons]
   obtain⟨b,bV⟩:=tF (r:=r) ho fG hr.1 (hr.rg (pP fG)) rfl hx hy
   refine bV _ _ ?_
   have:=(ih b).1 w0 g0 ws H0 g w (a.put d (.bool b)) n ops mu tJ r fI ck sr (hr.put (by obtain⟨_,_,_,_,e,_,h5⟩:=bB fG;cases e;exact h5) (.refl _ _) (.bool b)) le fr
   rwa[jn,cD (gq fG)]at this
  ·obtain⟨x,l',fT,oper,rfl,nT,h3,hh,h4⟩:=ib h1 h2
   have C1:x.o.d=d:=by rw[nT]
   cases he:x.early with
   | true =>
    have:=(hh.kl he).1
    rw[nT]at this
    exact absurd (by cases d<;>rfl) this
   | false =>
    refine fh (Tl:=fun R' H2=>∃b:Bool,R'=bC R d (.bool b)∧H2=H) hh he (cZ ord pre _ h1) (dB fT _ l' h4) ?_ ?_ fuel L g a w hl hd
    ·rintro R' H'⟨b,rfl,rfl⟩ fuel L' g' a' w' hL gM
     exact(ih b).2 w0 n ops mu df mk g0 ws H0 _ L' g' a' w' fT l' r fuel (Ae hd gM ck) h4 h3 gM hL
    ·intro L2 g2 a2 w2 cr hp K hK
     have LC:gp P g2:=Ae hd cr ck
     have fG:=hh.co
     have pQ:=cr.fj hh hp
     rw[nT]at fG pQ
     obtain⟨b,bV⟩:=tF (r:=r) hh.ho fG cr.v7 pQ rfl hx hy
     refine bV _ _ (hK _ H g2 _ w2 ⟨b,rfl,rfl⟩ ?_)
     have:=cr.both hh he hp (.refl _ _) cr.sr (.bool b) (.refl _ _) fun _ _ _ _ _ _ _ _ _ e=>e
     rwa[C1]at this
 | @qh d xx gd s l R H Q b bi es ix cur hg hx hb hs _ ih =>
  refine⟨fun w0 g0 ws H0 g w a n ops mu is r hc ck sr hr le fr=>?_,fun w0 n ops mu df mk g0 ws H0 pre L g a w ord jW r fuel ck h1 h2 hd hl=>?_⟩
  ·obtain⟨i,tJ,oper,rfl,ho,fG,fI⟩:=dE hc
   rw[wpOpsIn_cons]
   obtain⟨t,H',u,w',g',hM,bV,m5,ju,fP,sg⟩:=xc (r:=r) ho fG hr.1 (hr.rg (pP fG)) hg sr hx hb
   refine bV _ _ ?_
   have:=(ih t H' hM).1 w0 g0 ws H0 g' w' (a.put d u) n ops mu tJ r fI (ck.mono m5) ju (hr.put (by obtain⟨_,_,_,_,e,_,h5⟩:=bB fG;cases e;exact h5) m5 fP) (le.trans m5) (fr.trans sg)
   rwa[jn,cD (gq fG)]at this
  ·obtain⟨x,l',fT,oper,rfl,nT,h3,hh,h4⟩:=ib h1 h2
   have C1:x.o.d=d:=by rw[nT]
   cases he:x.early with
   | true =>
    have:=(hh.kl he).1
    rw[nT]at this
    exact absurd (by cases d<;>rfl) this
   | false =>
    refine fh (Tl:=fun R' H2=>∃v,nE H b bi es ix v H2∧R'=bC R d v) hh he (cZ ord pre _ h1) (dB fT _ l' h4) ?_ ?_ fuel L g a w hl hd
    ·rintro R' H'⟨v,hM,rfl⟩ fuel L' g' a' w' hL gM
     exact(ih v H' hM).2 w0 n ops mu df mk g0 ws H0 _ L' g' a' w' fT l' r fuel (Ae hd gM ck) h4 h3 gM hL
    ·intro L2 g2 a2 w2 cr hp K hK
     have LC:gp P g2:=Ae hd cr ck
     have fG:=hh.co
     have pQ:=cr.fj hh hp
     rw[nT]at fG pQ
     obtain⟨t,H',u,w',g',hM,bV,m5,ju,fP,sg⟩:=xc (r:=r) hh.ho fG cr.v7 pQ hg cr.sr hx hb
     refine bV _ _ (hK _ H' g' _ w' ⟨t,hM,rfl⟩ ?_)
     have dD:=cr.stays hh he hp (H':=H') (by rw[nT];exact hs t H' hM)
     have:=cr.both hh he hp m5 ju fP sg dD
     rwa[C1]at this
 | @shr f as H Q M _ h2 ih =>
  intro w0 g w args ck sr hv
  obtain⟨jY,hc⟩:=ih w0 g w args ck sr hv
  refine⟨jY,hc.mono fun e w3 ⟨v,t,g3,H3,he,hM,Ad,B3,fP,CY⟩=>?_⟩
  obtain⟨t',b,cs,k,ht,iW,hb,hq⟩:=h2 _ _ hM
  cases ht
  have hφ:∃x,g3.φ b=some x:=by
   cases fP with
   | ax h=>simp only[zF]at iW;subst iW;exact⟨_,h⟩
   | bJ hl h2 =>
    obtain⟨off,len,n,hm⟩:=iW
    obtain⟨i,hi⟩:=List.mem_iff_getElem?.1 hm
    have aw:=(List.getElem?_eq_some_iff.1 hi).1
    obtain⟨u,hu⟩:∃u,(Array.mk _)[i]?=some u:=⟨_,Array.getElem?_eq_getElem (Nat.lt_of_lt_of_eq aw hl.symm)⟩
    have:=h2 i _ _ hi hu
    cases this with
    | ax h=>exact⟨_,h⟩
   | _=>exact iW.elim
  obtain⟨HV,CZ⟩:=B3.shrink k hb hφ
  exact⟨v,_,g3,_,he,hq,Ad,HV,fP,CY.trans CZ⟩
 | @Qh f as H Q fn M hf hn _ h2 ih =>
  intro w0 g w args ck sr hv
  obtain⟨an,ye⟩:=hE.fn f fn hf
  obtain⟨F,code,res,body,hF,hb,rf,uR,jY,a9,aw,rfl⟩:=rl ye
  refine⟨jY,callsIn_of_wp_marks hF hb trivial ?_⟩
  have NA:=rm (F:=F) hv hn a9
  refine wpIn_mono (ih w0 g w _ F.ntmps an true code none uR (fun _=>rfl) ck sr NA).1 fun e a' w' D6=>?_
  obtain⟨ex,R',g',H',e1,hm,le,ju,oJ,fr,vZ,_⟩:=D6
  obtain⟨R2,bs,hex,RC,fz,JK,v0,NB,hq⟩:=h2 _ _ hm
  have XC:Mk g (gF as F.ntmps) []:=⟨[],by simp only[gF];rw[List.getD_eq_getElem?_getD,List.getElem?_eq_none (by simp only at hn;omega)];rfl,.nil⟩
  obtain⟨ts,CV,hmo⟩:=vZ XC
  have uZ:R2=R'→LeavesInM (Fw none) 0 P F a'.tmps (tE w0 g w H fun v H'=>Q (.val v) H') a'.defers .returning w':=by
   rintro rfl
   simp only at RC hq NB
   rw[CV]at RC
   refine uX ts a'.defers bs g' H' w' R2 a' _ hmo RC fz JK ju oJ (fun w2 v JJ LB _ Ac _ fP=>⟨v,_,g',_,rfl,hq,le.trans JJ,LB,fP,fr.trans Ac⟩) NB fun g w H sr hr ht=>rh (P:=P) sr rf aw hr ht
  cases e<;>simp only[sQ,Option.some.injEq,reduceCtorEq]at e1<;>subst e1
  case normal=>rcases hex with hex|hex<;>cases hex;exact uZ rfl
  case exit id=>rcases hex with hex|hex<;>cases hex
  case ret=>rcases hex with hex|hex<;>cases hex;exact uZ rfl
 | @fn f as H Q fn M hf hnr hn _ h2 ih =>
  intro w0 g w args ck sr hv
  obtain⟨an,ye⟩:=hE.fn f fn hf
  obtain⟨F,code,res,body,hF,hb,rf,uR,jY,a9,aw,rfl⟩:=rl ye
  refine⟨jY,callsIn_of_wp hF hb trivial ?_⟩
  have NA:=rm (F:=F) hv hn a9
  refine wpIn_mono (ih w0 g w _ F.ntmps an true code none uR (fun _=>rfl) ck sr NA).1 fun e a' w' D6=>?_
  obtain⟨ex,R',g',H',e1,hm,le,ju,oJ,fr,_,Af⟩:=D6
  obtain⟨R2,hex,v0,NB,hq⟩:=h2 _ _ hm
  have uZ:∀(R2:av),R2=R'→p0 R2 H' res=some v0→a'.defers=[]∧∃v,(results F a'.tmps).run P w'=.ok v w'∧tE w0 g w H (fun v H'=>Q (.val v) H') (.returned v) w':=by
   rintro R2 rfl NB
   obtain⟨v,cy,fP⟩:=rh (P:=P) ju rf aw oJ NB
   exact⟨(Af hnr).2,v,cy,v,_,g',H',rfl,hq,le,ju,fP,fr⟩
  cases e<;>simp only[sQ,Option.some.injEq,reduceCtorEq]at e1<;>subst e1
  case normal=>rcases hex with hex|hex<;>cases hex;exact uZ _ rfl NB
  case exit id=>rcases hex with hex|hex<;>cases hex
  case ret=>rcases hex with hex|hex<;>cases hex;exact uZ _ rfl NB
 | @Br f as H Q b off len n i M hi _ h2 ih =>
  intro w0 g w args ck sr hv
  have aw:=(List.getElem?_eq_some_iff.1 hi).1
  have hl:=hv.1
  have RJ:=hv.2 i _ _ hi (List.getElem?_eq_getElem (by omega))
  have hex:∃c,len≤c∧VR g w (.ej b off len n c) (args[i]'(by omega)):=by
   generalize args[i]'(by omega)=u at RJ
   cases RJ with
   | ax h hc hq=>exact⟨_,hc,.ej h hc hq⟩
  obtain⟨c,hc,HQ⟩:=hex
  have Jt:bF g w (as.set i (.ej b off len n c)) args:=⟨by simp[hl],fun j t v ha hb=>by
   by_cases e:j=i
   ·subst e
    rw[List.getElem?_set_self aw]at ha
    cases ha
    rw[List.getElem?_eq_getElem (by omega)]at hb
    cases hb
    exact HQ
   ·rw[List.getElem?_set_ne (Ne.symm e)]at ha
    exact hv.2 j t v ha hb⟩
  obtain⟨jY,uR⟩:=ih c hc w0 g w args ck sr Jt
  refine⟨jY,uR.mono fun e w3 ⟨v,t,g3,H3,he,hM,Ad,B3,fP,CY⟩=>?_⟩
  exact⟨v,_,g3,H3,he,h2 _ _ hM,Ad,B3,fP.uF,CY⟩
 | @qa f as H Q M _ h2 ih =>
  intro w0 g w args ck sr hv
  obtain⟨jY,hc⟩:=ih w0 g w args ck sr hv
  refine⟨jY,hc.mono fun e w3 ⟨v,t,g3,H3,he,hM,Ad,B3,fP,CY⟩=>?_⟩
  obtain⟨t',b,cs,ht,iW,hb,hq⟩:=h2 _ _ hM
  cases ht
  have hφ:∃x,g3.φ b=some x:=by
   cases fP with
   | ax h=>simp only[zF]at iW;subst iW;exact⟨_,h⟩
   | bJ hl h2 =>
    obtain⟨off,len,n,hm⟩:=iW
    obtain⟨i,hi⟩:=List.mem_iff_getElem?.1 hm
    have aw:=(List.getElem?_eq_some_iff.1 hi).1
    obtain⟨u,hu⟩:∃u,(Array.mk _)[i]?=some u:=⟨_,Array.getElem?_eq_getElem (Nat.lt_of_lt_of_eq aw hl.symm)⟩
    have:=h2 i _ _ hi hu
    cases this with
    | ax h=>exact⟨_,h⟩
   | _=>exact iW.elim
  obtain⟨g4,HU,HV,CZ,NC⟩:=B3.freeze hb hφ
  exact⟨v,_,g4,_,he,hq,Ad.trans HU,HV,NC _ _ fP,CY.trans CZ⟩
 | @Dg f as H Q b off len n cs i hi hb _ ih =>
  intro w0 g w args ck sr hv
  have aw:=(List.getElem?_eq_some_iff.1 hi).1
  have hl:=hv.1
  have RJ:=hv.2 i _ _ hi (List.getElem?_eq_getElem (by omega))
  have hφ:∃x,g.φ b=some x:=by
   generalize args[i]'(by omega)=u at RJ
   cases RJ with
   | ax h=>exact⟨_,h⟩
  obtain⟨g4,HU,HV,CZ,NC⟩:=sr.freeze hb hφ
  have Jt:bF g4 w (as.map (Bm b cs)) args:=⟨by simp[hl],fun j t v ha jt=>by
   rw[List.getElem?_map]at ha
   obtain⟨t0,h0,rfl⟩:=Option.map_eq_some_iff.1 ha
   exact NC _ _ (hv.2 j t0 v h0 jt)⟩
  obtain⟨jY,hc⟩:=ih w0 g4 w args (ck.mono HU) HV Jt
  exact⟨jY,hc.mono fun e w3 ⟨v,t,g3,H3,he,hM,Ad,B3,fP,CY⟩=>⟨v,t,g3,H3,he,hM,HU.trans Ad,B3,fP,CZ.trans CY⟩⟩
 | @oO f as H Q h =>
  intro w0 g w args ck sr hv
  exact hE.oO f as H _ h w0 g w args sr hv
inductive Sh where
 | int (k:IntKind)|str|bool
 | sl (l:List Sh)
 | ag (l:List Sh)
def B4 (P:Program)(f:TypeId→Option (List Sh)):List Field→Nat→Option (List Sh)
 | [],_=>some []
 | x :: xs,off=>match f x.type with
  | some l=>if x.offset=off∧l.length=P.cellsOf x.type then(B4 P f xs (off+l.length)).map (l++·)else none
  | none=>none
def Ag (k:Nat)(e:TypeId)(c:Nat):List Field:=(List.range k).map fun i=>{ (default:Field)with type:=e,offset:=i*c }
def sR (P:Program):Nat→TypeId→Option (List Sh)
 | 0,_=>none
 | n+1,t=>match P.underlying t with
  | some .bool=>some [.bool]
  | some (.int k)=>some [.int k]
  | some .string=>some [.str]
  | some (.slice e)=>match sR P n e with
   | some l=>if l.length=P.cellsOf e∧l.length≠0 then some [.sl l]else none
   | none=>none
  | some (.struct fs)=>match B4 P (sR P n) fs.toList 0 with
   | some l=>if l.length=P.cellsOf t then some l else none
   | none=>none
  | some (.array k e)=>match B4 P (sR P n) (Ag k e (P.cellsOf e)) 0 with
   | some l=>if l.length=P.cellsOf t then some l else none
   | none=>none
  | _=>none
inductive dY (B:Nat):Sh→T→Prop
 | int {k n} (h:(Lit.int k n).wf=true):dY B (.int k) (.int k n)
 | bool (b):dY B .bool (.bool b)
 | str {s:ByteArray} (h:s.size≤maxLen) (hB:s.size≤B):dY B .str (.str s)
 | nil {l}:dY B (.sl l) (.sl .nil [])
 | sl {l es} (hl:es.length≤maxLen) (hB:es.length≤B) (h0:∀c∈es,c.length=l.length) (h:∀c∈es,∀(j:Nat) (s:Sh) (t:T),l[j]?=some s→c[j]?=some t→dY B s t):dY B (.sl l) (.sl .arg es)
 | ag {l cs} (hl:cs.length=l.length) (h:∀(j:Nat) (s:Sh) (t:T),l[j]?=some s→cs[j]?=some t→dY B s t):dY B (.ag l) (.agg cs)
mutual
def T.bk:T→Nat
 | .str s=>s.size+1
 | .sl _ es=>C2 es+1
 | _=>1
def pd:List T→Nat
 | []=>0
 | t :: ts=>t.bk+pd ts
def C2:List (List T)→Nat
 | []=>0
 | c :: es=>pd c+C2 es
end
theorem JL (a b:List T):pd (a++b)=pd a+pd b:=by
 induction a with
 | nil=>simp[pd]
 | cons t a ih=>simp only[List.cons_append,pd,ih];omega
mutual
def bZ {H:Type}:DataW H→Nat
 | .lit (.string bytes)=>bytes.length+1
 | .lit _=>1
 | .nil=>1
 | .ptr d=>bZ d+1
 | .slice elems spare=>bS elems+bS spare+1
 | .agg parts=>bS parts+1
 | .iface _ d=>bZ d+1
 | .map entries=>fA entries+1
 | .held _=>1
def bS {H:Type}:List (DataW H)→Nat
 | []=>0
 | d :: r=>bZ d+bS r
def fA {H:Type}:List (Lit×DataW H)→Nat
 | []=>0
 | x :: r=>m9 x+fA r
def m9 {H:Type}:Lit×DataW H→Nat
 | (.string bytes,d)=>bytes.length+bZ d+1
 | (_,d)=>bZ d+1
end
theorem lD {H:Type}(d:DataW H):1≤bZ d:=by
 cases d with
 | lit l=>cases l<;>simp[bZ]
 | _=>simp[bZ]
theorem pf {H:Type}{d:DataW H}{l:List (DataW H)}(h:d∈l):bZ d≤bS l:=by
 induction l with
 | nil=>cases h
 | cons x r ih =>
  simp only[bS]
  rcases List.mem_cons.1 h with rfl|h
  ·omega
  ·have:=ih h;omega
theorem D7 {H:Type}:∀(es:List (List T)) (ds:List (DataW H)),es.length≤ds.length→(∀(i:Nat) c d,es[i]?=some c→ds[i]?=some d→pd c≤bZ d)→C2 es≤bS ds
 | [],_,_,_=>by simp[C2]
 | c :: es,[],h,_=>by simp at h
 | c :: es,d :: ds,h,hk=>by
  have h1:=hk 0 c d rfl rfl
  have h2:=D7 es ds (by simpa using h) fun i c d a b=>hk (i+1) c d (by simpa using a) (by simpa using b)
  simp only[C2,bS];omega
theorem D8 {H:Type}(l:List (DataW H)):l.length≤bS l:=by
 induction l with
 | nil=>simp
 | cons x r ih=>have:=lD x;simp only[bS,List.length_cons];omega
def g0 (P:Program)(W:World):Ctx:=⟨fun _=>none,fun r _=>if r<W.heap.size then .mA else .free,fun _ _=>none,fun n c k=>∃an,bE P n an false k=some c⟩
theorem sr0 (P:Program)(W:World):SR W (g0 P W) [] W where
 size:=Nat.le_refl _
 jP _ _:=rfl
 Bv r o h:=by simp[g0,h]
 fresh r o h:=by simp only[g0];rw[if_neg (by omega)]
 sH b x h:=by simp[g0]at h
 jj t e x h:=by simp[g0]at h
 eg b x h:=by simp at h
 qa r j h:=dz h
 env:=⟨rfl,rfl⟩
theorem ck0 (P:Program)(W:World):gp P (g0 P W):=fun _ _ _=>Iff.rfl
theorem Ah {α:Type}{Q:Nat→α→Prop}:∀(n:Nat),(∀i,i<n→∃c,Q i c)→∃l:List α,l.length=n∧∀(i:Nat) (c:α),l[i]?=some c→Q i c
 | 0,_=>⟨[],rfl,by simp⟩
 | n+1,h=>by
  obtain⟨l,hl,hq⟩:=Ah n fun i hi=>h i (by omega)
  obtain⟨c,hc⟩:=h n (by omega)
  refine⟨l++[c],by simp[hl],fun i d hd=>?_⟩
  by_cases hi:i<n
  ·rw[List.getElem?_append_left (by omega)]at hd;exact hq i d hd
  ·rw[List.getElem?_append_right (by omega)]at hd
   have:i=n:=by
    have:=(List.getElem?_eq_some_iff.1 hd).1;simp at this;omega
   subst this;simp[hl]at hd;subst hd;exact hc
section
variable {H:Type} {enc:TypeId×Value→H} {P:Program} {W:World} {held:Bool} {B:Nat}
theorem xh {a:Addr}{n:Nat}{cs:List Value}(h:W.cells? 0 a n=some cs):cs.length=n∧∀(j:Nat) (v:Value),cs[j]?=some v→W.cell? (a.add j)=some v:=by
 unfold World.cells? at h
 rw[if_pos (Nat.zero_le _)]at h
 have key:∀(n:Nat) (cs:List Value),(List.range n).mapM (fun i=>W.cell? (a.add i))=some cs→cs.length=n∧∀(j:Nat) (v:Value),cs[j]?=some v→W.cell? (a.add j)=some v:=by
  intro n
  induction n with
  | zero=>intro cs h;simp at h;subst h;simp
  | succ n ih =>
   intro cs h
   rw[List.range_succ,List.mapM_append]at h
   cases h1:(List.range n).mapM (fun i=>W.cell? (a.add i))with
   | none=>simp[h1]at h
   | some l =>
    cases h2:W.cell? (a.add n)with
    | none=>simp[h1,h2]at h
    | some v =>
     simp[h1,h2]at h
     subst h
     obtain⟨k1,k2⟩:=ih l h1
     refine⟨by simp[k1],fun j u hj=>?_⟩
     by_cases yF:j<n
     ·rw[List.getElem?_append_left (by omega)]at hj;exact k2 j u hj
     ·rw[List.getElem?_append_right (by omega)]at hj
      have:j=n:=by
       have:=(List.getElem?_eq_some_iff.1 hj).1;simp at this;omega
      subst this;simp[k1]at hj;subst hj;exact h2
 exact key n cs h
def Reads (enc:TypeId×Value→H)(P:Program)(W:World)(held:Bool)(B:Nat)(t:TypeId)(l:List Sh):Prop :=
 ∀fuel cs d ps,DataW.trod enc P W 0 (fun _=>true) held fuel t cs=some (d,ps)→bZ d≤B→cs.length=l.length∧∃ts:List T,bF (g0 P W) W ts cs∧cB ts∧(∀(j:Nat) (s:Sh) (t:T),l[j]?=some s→ts[j]?=some t→dY B s t)∧pd ts≤bZ d
theorem kc {f:TypeId→Option (List Sh)}{n:Nat}{cs:List Value}:∀(fs:List Field) (off:Nat) (l:List Sh) (xs:List (DataW H×List MemPlace)),B4 P f fs off=some l→(∀x∈fs,∀l',f x.type=some l'→Reads enc P W held B x.type l') →
  xs.length=fs.length→(∀(i:Nat) (x:Field),fs[i]?=some x→DataW.trod enc P W 0 (fun _=>true) held n x.type ((cs.drop x.offset).take (P.cellsOf x.type))=xs[i]?)→(∀x∈xs,bZ x.1≤B)→off+l.length≤cs.length →
  ∃ts:List T,bF (g0 P W) W ts ((cs.drop off).take l.length)∧cB ts∧(∀(j:Nat) (s:Sh) (t:T),l[j]?=some s→ts[j]?=some t→dY B s t)∧pd ts≤bS (xs.map (·.1))
 | [],off,l,xs,h,_,_,_,_,_=>by
  simp only[B4,Option.some.injEq]at h;subst h
  exact⟨[],by simpa using bF.nil,by simp[cB],by simp,by simp[pd]⟩
 | x :: fs,off,l,xs,h,hr,hl,ht,hb,hle=>by
  simp only[B4]at h
  split at h
  ·rename_i l1 h1
   split at h
   ·rename_i hc
    simp only[Option.map_eq_some_iff]at h
    obtain⟨l2,h2,rfl⟩:=h
    cases xs with
    | nil=>simp at hl
    | cons y xs =>
     have t0:=ht 0 x rfl
     simp only[List.getElem?_cons_zero]at t0
     obtain⟨d,ps⟩:=y
     obtain⟨a1,ts1,a2,a3,a4,a5⟩:=hr x (by simp) l1 h1 n _ d ps t0 (hb (d,ps) (by simp))
     obtain⟨ts2,b2,b3,b4,b5⟩:=kc fs (off+l1.length) l2 xs h2 (fun z hz=>hr z (by simp[hz])) (by simpa using hl) (fun i z hz=>by have:=ht (i+1) z (by simpa using hz);simpa using this) (fun z hz=>hb z (by simp[hz])) (by simp at hle;omega)
     have e1:(cs.drop off).take (l1++l2).length=(cs.drop x.offset).take (P.cellsOf x.type)++(cs.drop (off+l1.length)).take l2.length:=by
      rw[hc.1,←hc.2,List.length_append,List.take_add,List.drop_drop]
     have RK:ts1.length=l1.length:=by rw[a2.1,a1]
     refine⟨ts1++ts2,by rw[e1];exact a2.append b2,fun t ht=>?_,fun j s t hs ht=>?_,by rw[JL];simp only[List.map_cons,bS];omega⟩
     ·rcases List.mem_append.1 ht with h|h
      ·exact a3 t h
      ·exact b3 t h
     ·by_cases hj:j<l1.length
      ·rw[List.getElem?_append_left hj]at hs
       rw[List.getElem?_append_left (by omega)]at ht
       exact a4 j s t hs ht
      ·rw[List.getElem?_append_right (by omega)]at hs
       rw[List.getElem?_append_right (by omega),RK]at ht
       exact b4 _ s t hs ht
   ·cases h
  ·cases h
theorem ND {r o:Nat}{v:Value}(h:W.cell? ⟨r,o,none⟩=some v):Bt (g0 P W) W r o v:=⟨by simp[g0,jQ h],h⟩
theorem reads:∀(n:Nat) (t:TypeId) (l:List Sh),sR P n t=some l→Reads enc P W held B t l
 | 0,_,_,h=>by simp[sR]at h
 | n+1,t,l,h=>by
  intro fuel cs d ps hd hb
  simp only[sR]at h
  split at h
  ·rename_i hu;cases h
   obtain⟨b,rfl,hx⟩:=DataW.trod_bool hu hd
   exact⟨rfl,[.bool b],bF.cons (.bool b) bF.nil,by simp[cB,T.one],fun j s t hs ht=>by cases j with
    | zero=>simp at hs ht;subst hs;subst ht;exact .bool b
    | succ j=>simp at hs,by have:=lD d;simp only[pd,T.bk];omega⟩
  ·rename_i k hu;cases h
   obtain⟨m,rfl,hx,hw⟩:=DataW.trod_int hu hd
   exact⟨rfl,[.int k m],bF.cons (.int k m) bF.nil,by simp[cB,T.one],fun j s t hs ht=>by cases j with
    | zero=>simp at hs ht;subst hs;subst ht;exact .int hw
    | succ j=>simp at hs,by have:=lD d;simp only[pd,T.bk];omega⟩
  ·rename_i hu;cases h
   obtain⟨s,rfl,hx,hw⟩:=DataW.trod_string hu hd
   cases hx
   exact⟨rfl,[.str s],bF.cons (.str s) bF.nil,by simp[cB,T.one],fun j s' t hs ht=>by cases j with
    | zero=>simp at hs ht;subst hs;subst ht;exact .str hw (by simp[bZ]at hb;have:s.data.size=s.size:=rfl;omega)
    | succ j=>simp at hs,by simp only[pd,T.bk,bZ];have:s.data.size=s.size:=rfl;simp⟩
  ·rename_i e hu
   split at h
   ·rename_i le he
    split at h
    ·rename_i hc
     cases h
     have ih:=reads n e le he
     rcases DataW.trod_slice hu hd with⟨rfl,hx⟩|⟨a,len,cap,elems,rest,m,_,rfl,hx,_,h1,h2,h3,h4,h5,_⟩
     ·exact⟨rfl,[.sl .nil []],bF.cons .slnil bF.nil,by simp[cB,T.one],fun j s t hs ht=>by cases j with
       | zero=>simp at hs ht;subst hs;subst ht;exact .nil
       | succ j=>simp at hs,by have:=lD d;simp only[pd,T.bk,C2];omega⟩
     ·cases hx
      have RL:∀x∈elems,bZ x.1≤B:=fun x hx=>by
       have:=pf (List.mem_map_of_mem (f:=(·.1)) hx);simp only[bZ]at hb;omega
      have hlB:len≤B:=by
       have:=D8 (elems.map (·.1));simp only[bZ]at hb;simp at this;omega
      have DI:∀i,i<len→∃c:List T,c.length=le.length∧∃us,W.cells? 0 (a.add (i*P.cellsOf e)) (P.cellsOf e)=some us∧bF (g0 P W) W c us∧cB c∧(∀(j:Nat) (s:Sh) (t:T),le[j]?=some s→c[j]?=some t→dY B s t)∧∀d,(elems.map (·.1))[i]?=some d→pd c≤bZ d:=by
       intro i hi
       have hk:=h4 i hi
       have jR:i<elems.length:=by omega
       rw[List.getElem?_eq_getElem jR]at hk
       obtain⟨us,k1,k2⟩:=Option.bind_eq_some_iff.1 hk
       obtain⟨q1,ts,q2,q3,q4,q5⟩:=ih m us elems[i].1 elems[i].2 k2 (RL _ (List.getElem_mem jR))
       exact⟨ts,by rw[q2.1,q1],us,k1,q2,q3,q4,fun d hd=>by rw[List.getElem?_map,List.getElem?_eq_getElem jR]at hd;simp only[Option.map_some,Option.some.injEq]at hd;subst hd;exact q5⟩
      obtain⟨es,he1,LD⟩:=Ah len DI
      have JM:dY B (.sl le) (.sl .arg es):=.sl (by omega) (by omega) (fun c hc=>by
       obtain⟨i,hi,rfl⟩:=List.getElem_of_mem hc
       exact(LD i _ (List.getElem?_eq_getElem hi)).1) (fun c hc=>by
       obtain⟨i,hi,rfl⟩:=List.getElem_of_mem hc
       obtain⟨_,_,_,_,_,q,_⟩:=LD i _ (List.getElem?_eq_getElem hi)
       exact q)
      have fP:VR (g0 P W) W (.sl .arg es) (.slice (some a) len cap):=by
       by_cases nH:cap=0
       ·have:len=0:=by omega
        subst this;subst nH
        have:es=[]:=List.eq_nil_of_length_eq_zero he1
        subst this;exact .iQ _
       ·have LF:a.spot=none:=by
         have lh:∃us,W.cells? 0 (a.add (0*P.cellsOf e)) (P.cellsOf e)=some us:=by
          by_cases hl:0<len
          ·obtain⟨_,_,us,k,_⟩:=DI 0 hl;exact⟨us,k⟩
          ·have h0:len=0:=by omega
           obtain⟨k1,k2⟩:=h5 rfl
           have:=k2 0 (by omega)
           have hr:0<rest.length:=by omega
           rw[List.getElem?_eq_getElem hr,h0]at this
           obtain⟨us,k3,_⟩:=Option.bind_eq_some_iff.1 this
           exact⟨us,by simpa using k3⟩
         obtain⟨us,hus⟩:=lh
         obtain⟨k1,k2⟩:=xh hus
         have Nb:0<us.length:=by omega
         have mV:=k2 0 us[0] (List.getElem?_eq_getElem Nb)
         unfold World.cell? at mV
         split at mV
         ·split at mV
          ·cases mV
          ·rename_i zL;simpa[Addr.add]using zL
         ·cases mV
        obtain⟨r,o,sp⟩:=a
        simp only at LF;subst LF
        rw[←he1]
        have hn:∀c∈es,c.length=le.length:=fun c hc=>by
         obtain⟨i,hi,rfl⟩:=List.getElem_of_mem hc
         exact(LD i _ (List.getElem?_eq_getElem hi)).1
        have lh:∀(i j:Nat) (c:List T) (t:T),es[i]?=some c→c[j]?=some t→∃v,W.cell? ⟨r,o+i*le.length+j,none⟩=some v∧VR (g0 P W) W t v∧t.one=true:=by
         intro i j c t hi hj
         obtain⟨q1,us,q2,q3,q4,_⟩:=LD i c hi
         obtain⟨k1,k2⟩:=xh q2
         have hju:j<us.length:=by rw[←q3.1];exact(List.getElem?_eq_some_iff.1 hj).1
         refine⟨us[j],?_,q3.2 j t _ hj (List.getElem?_eq_getElem hju),q4 t (List.mem_of_getElem? hj)⟩
         have:=k2 j us[j] (List.getElem?_eq_getElem hju)
         rw[←hc.1,dr,dr]at this
         exact this
        refine .sl (n:=le.length) (fun i j=>(W.cell? ⟨r,o+i*le.length+j,none⟩).getD undef) trivial (by omega) hn (fun i j c t hi hj=>?_) (fun i j c t hi hj=>?_)
        ·obtain⟨v,q1,q2,q3⟩:=lh i j c t hi hj
         exact⟨q3,by rw[q1];exact ND q1⟩
        ·obtain⟨v,q1,q2,q3⟩:=lh i j c t hi hj
         rw[q1];exact q2
      exact⟨rfl,[.sl .arg es],bF.cons fP bF.nil,by simp[cB,T.one],fun j s t hs ht=>by cases j with
       | zero=>simp at hs ht;subst hs;subst ht;exact JM
       | succ j=>simp at hs,by
       have QB:=D7 es (elems.map (·.1)) (by simp;omega) fun i c d hc hd=>by
        obtain⟨_,_,_,_,_,_,q⟩:=LD i c hc
        exact q d hd
       simp only[pd,T.bk,bZ];omega⟩
    ·cases h
   ·cases h
  ·rename_i fs hu
   split at h
   ·rename_i l' yR
    split at h
    ·rename_i hc
     cases h
     obtain⟨xs,m,_,hx,k1,k2,k3⟩:=DataW.trod_struct hu hd
     cases hx
     have RL:∀x∈xs,bZ x.1≤B:=fun x hx=>by
      have:=pf (List.mem_map_of_mem (f:=(·.1)) hx);simp only[bZ]at hb;omega
     obtain⟨ts,a1,a2,a3,a4⟩:=kc (n:=m) (cs:=cs) fs.toList 0 l xs yR (fun x _ l2 h2=>reads n x.type l2 h2) (by simpa using k2) (fun i x hi=>k3 i x (by simpa using hi)) RL (by omega)
     have e1:(cs.drop 0).take l.length=cs:=by rw[List.drop_zero,hc,←k1];simp
     rw[e1]at a1
     exact⟨by omega,ts,a1,a2,a3,by simp only[bZ];omega⟩
    ·cases h
   ·cases h
  ·rename_i k e hu
   split at h
   ·rename_i l' yR
    split at h
    ·rename_i hc
     cases h
     obtain⟨xs,m,_,hx,k1,k2,k3⟩:=DataW.trod_array hu hd
     cases hx
     have RL:∀x∈xs,bZ x.1≤B:=fun x hx=>by
      have:=pf (List.mem_map_of_mem (f:=(·.1)) hx);simp only[bZ]at hb;omega
     obtain⟨ts,a1,a2,a3,a4⟩:=kc (n:=m) (cs:=cs) (Ag k e (P.cellsOf e)) 0 l xs yR (fun x hx l2 h2=>by
      obtain⟨i,_,rfl⟩:=List.mem_map.1 hx;exact reads n e l2 h2) (by rw[k2];simp[Ag]) (fun i x hi=>by
      simp only[Ag,List.getElem?_map,Option.map_eq_some_iff]at hi
      obtain⟨j,hj,rfl⟩:=hi
      obtain⟨h1,h2⟩:=List.getElem?_eq_some_iff.1 hj
      rw[List.getElem_range]at h2
      subst h2
      exact k3 i (by simpa using h1)) RL (by omega)
     have e1:(cs.drop 0).take l.length=cs:=by rw[List.drop_zero,hc,←k1];simp
     rw[e1]at a1
     exact⟨by omega,ts,a1,a2,a3,by simp only[bZ];omega⟩
    ·cases h
   ·cases h
  ·cases h
def D9 (P:Program)(t:TypeId):Option Sh:=match P.underlying t with
 | some .bool|some (.int _)|some .string|some (.slice _)=>match sR P 9 t with
  | some [s]=>some s
  | _=>none
 | some (.struct _)|some (.array _ _)=>match sR P 9 t with
  | some l=>some (.ag l)
  | none=>none
 | _=>none
def rp (P:Program):List TypeId→Option (List Sh)
 | []=>some []
 | t :: ts=>match D9 P t,rp P ts with
  | some s,some l=>some (s :: l)
  | _,_=>none
inductive pg (B:Nat):List Sh→List T→Prop
 | nil:pg B [] []
 | cons {s t ss ts} (h:dY B s t) (hs:pg B ss ts):pg B (s :: ss) (t :: ts)
theorem Ea {base:Nat}{t:TypeId}{s:Sh}{v:Value}{d:DataW H}{p:List MemPlace}(h:D9 P t=some s)(hv:Value.okWide P W .any base t v)(hf:DataW.Trod enc P W 0 (fun _=>true) held t v d p)(hB:bZ d≤B) :
  ∃u:T,VR (g0 P W) W u v∧dY B s u∧u.bk≤bZ d:=by
 obtain⟨fuel,hf⟩:=hf
 have one:(∀cs,v≠.agg cs)→v.cells.toList=[v]:=by
  intro h;cases v<;>first|rfl|exact absurd rfl (h _)
 have sc:v.cells.toList=[v]→(match sR P 9 t with|some [s]=>some s|_=>none)=some s→∃u:T,VR (g0 P W) W u v∧dY B s u∧u.bk≤bZ d:=by
  intro XD h
  split at h
  ·rename_i s' h3
   cases h
   obtain⟨c1,us,c2,c3,c4,c5⟩:=reads (B:=B) 9 t [s] h3 fuel _ d p hf hB
   rw[XD]at c2
   have hul:us.length=1:=by have:=c2.1;simpa using this
   obtain⟨u,rfl⟩:∃u,us=[u]:=by
    cases us with
    | nil=>simp at hul
    | cons u us'=>cases us' with
     | nil=>exact⟨u,rfl⟩
     | cons _ _=>simp at hul
   exact⟨u,c2.head,c4 0 s u rfl rfl,by simp only[pd]at c5;omega⟩
  ·cases h
 have ag:(∃cs,v=.agg cs)→(match sR P 9 t with|some l=>some (Sh.ag l)|none=>none)=some s→∃u:T,VR (g0 P W) W u v∧dY B s u∧u.bk≤bZ d:=by
  rintro⟨cs,rfl⟩ h
  split at h
  ·rename_i l h3
   cases h
   obtain⟨c1,us,c2,c3,c4,c5⟩:=reads (B:=B) 9 t l h3 fuel _ d p hf hB
   have hc:(Value.agg cs).cells.toList=cs.toList:=rfl
   rw[hc]at c1 c2
   refine⟨.agg us,.agg (by have:=c2.1;simpa using this.symm) c3 (fun i t v a b=>c2.2 i t v a (by simpa using b)),.ag (by rw[c2.1,c1]) c4,by have:=lD d;simp only[T.bk];omega⟩
  ·cases h
 simp only[D9]at h
 split at h
 ·rename_i hu
  exact sc (one (by rintro cs rfl;simp[Value.okWide,hu,Cell.okWide,Cell.ok]at hv)) h
 ·rename_i hu
  exact sc (one (by rintro cs rfl;simp[Value.okWide,hu,Cell.okWide,Cell.ok]at hv)) h
 ·rename_i hu
  exact sc (one (by rintro cs rfl;simp[Value.okWide,hu,Cell.okWide,Cell.ok]at hv)) h
 ·rename_i hu
  exact sc (one (by rintro cs rfl;simp[Value.okWide,hu,Cell.okWide,Cell.ok]at hv)) h
 ·rename_i hu
  exact ag (by cases v<;>first|exact⟨_,rfl⟩|simp[Value.okWide,hu]at hv) h
 ·rename_i hu
  exact ag (by cases v<;>first|exact⟨_,rfl⟩|simp[Value.okWide,hu]at hv) h
 ·cases h
theorem tK {base:Nat}:∀(ts:List TypeId) (JN:List Sh) (args:List Value) (ds:List (DataW H)) (p:List MemPlace),rp P ts=some JN→(∀(j:Nat) t v,ts[j]?=some t→args[j]?=some v→Value.okWide P W .any base t v) →
  DataW.TrodAll enc P W 0 (fun _=>true) held ts args ds p→bS ds≤B→∃as:List T,bF (g0 P W) W as args∧pg B JN as∧pd as≤bS ds
 | [],JN,args,ds,p,h,_,hA,_=>by
  cases args<;>cases ds<;>simp[DataW.TrodAll]at hA
  simp only[rp,Option.some.injEq]at h;subst h
  exact⟨[],bF.nil,.nil,by simp[pd]⟩
 | t :: ts,JN,args,ds,p,h,B5,hA,hB=>by
  cases args with
  | nil=>cases ds<;>simp[DataW.TrodAll]at hA
  | cons v args =>
   cases ds with
   | nil=>simp[DataW.TrodAll]at hA
   | cons d ds =>
    obtain⟨p,q,hf,h2,_⟩:=hA
    simp only[rp]at h
    split at h
    ·rename_i s l h3 h4
     cases h
     simp only[bS]at hB
     obtain⟨as,b1,b2,b3⟩:=tK ts l args ds q h4 (fun j t v a b=>B5 (j+1) t v (by simpa using a) (by simpa using b)) h2 (by omega)
     obtain⟨u,c1,c2,c3⟩:=Ea (B:=B) (base:=base) (d:=d) (p:=p) h3 (B5 0 t v rfl rfl) hf (by omega)
     refine⟨u :: as,bF.cons c1 b1,.cons c2 b2,?_⟩
     show T.bk u+pd as≤bZ d+bS ds
     omega
    ·cases h
end
end Go.Rmp
end

section
namespace Go.Rmp
open Go.ChangeShapes Go.RowKit
section
variable {H:Type} {enc:TypeId×Value→H} {P:Program} {W W':World}
theorem mN {sp:Nat→Bool}{held:Bool}:∀(ts:List TypeId) (vs:List Value) (ds:List (DataW H)) (ps:List MemPlace),DataW.TrodAll enc P W 0 sp held ts vs ds ps→(∀p∈ps,W.sameAt W' p)→DataW.TrodAll enc P W' 0 sp held ts vs ds ps
 | [],[],[],_,h,_=>h
 | t :: ts,v :: vs,d :: ds,ps,⟨p,q,⟨n,hn⟩,h2,e⟩,hs=>⟨p,q,⟨n,DataW.trod_carry n t _ _ hn (fun x hx=>hs x (by rw[e];exact List.mem_append_left _ hx))⟩,mN ts vs ds q h2 (fun x hx=>hs x (by rw[e];exact List.mem_append_right _ hx)),e⟩
 | [],_ :: _,_,_,h,_=>h.elim
 | [],[],_ :: _,_,h,_=>h.elim
 | _ :: _,[],_,_,h,_=>h.elim
 | _ :: _,_ :: _,[],_,h,_=>h.elim
theorem Eb {g:Ctx}{Hh:af}(h:SR W g Hh W'):Grown W W':=by
 refine⟨⟨h.env.1,h.env.2,fun i hi=>?_⟩,fun a=>?_,h.size⟩
 ·rw[h.jP i hi]
  have:=World.keptBut_refl W (fun _=>False)
  exact this.2.2 i hi
 ·by_cases ha:a.block<W.heap.size
  ·unfold World.frozen?;rw[h.jP _ ha]
  ·have h1:=h.qa a.block a.off (by omega)
   have h2:=dz (w:=W) (r:=a.block) (j:=a.off) (by omega)
   exact h1.trans h2.symm
theorem B6 {E:Env}(hE:z8 P E){f:FuncId}{as:List T}{args:List Value}(hv:bF (g0 P W) W as args)(hW:Go.Rmp.W E (.call f as) [] (fun o _=>o=.val (.bool true))) :
  Calls P f args.toArray W fun e W'=>e=.returned (.bool true)∧Grown W W'∧∀r,r<W.heap.size→W'.heap[r]?=W.heap[r]?:=by
 obtain⟨_,hc⟩:=Go.Rmp.W.sim hE hW W (g0 P W) W args (ck0 P W) (sr0 P W) hv
 refine(callsIn_wide.1 hc).mono fun e W' ⟨v,t,g',H',he,hq,_,sr,fP,_⟩=>?_
 cases hq
 cases fP
 exact⟨he,Eb sr,sr.jP⟩
theorem sS {E:Env}(hE:z8 P E){f:FuncId}{fn:Func}{s:ChangeSpec}{JN:List Sh}{B:Nat}{tb:TypeId}(K:Kids P (·<P.types.size))(hz:∀t e,t<P.types.size→P.underlying t=some (.slice e)→0<P.cellsOf e)
  (JM:rp P fn.params.toList=some JN) (aw:∀t∈fn.params.toList,t<P.types.size) (hrt:fn.resultTypes=#[tb]) (htb:P.underlying tb=some .bool) (LG:s.vars=[])
  (ye:∀ds:List (DataW H),ds.length=fn.params.toList.length→s.fn H ds={ results:=[.lit (.bool true)],args:=ds })
  (XE:∀as:List T,pg B JN as→pd as≤B→Go.Rmp.W E (.call f as) [] (fun o _=>o=.val (.bool true)))
  (base:Nat) (args:Array Value) (ds gs:List (DataW H)) (before:List MemPlace)
  (B5:∀(j:Nat) t v,fn.params[j]?=some t→args[j]?=some v→Value.okWide P W .any base t v)
  (hW:DataW.Whole enc P fn.params.toList s.vars false W args.toList ds gs before) (hB:bS (ds++gs)≤B) :
  Calls P f args W fun e W'=>∃v,e=.returned v∧s.post enc P fn false true false false W args v W':=by
 have hW':=hW
 obtain⟨p,q,hA,hV,Q9,hfz,fz⟩:=hW
 rw[LG]at hV
 obtain⟨rfl,rfl⟩:gs=[]∧q=[]:=by
  cases gs with
  | nil=>exact⟨rfl,hV⟩
  | cons _ _=>exact hV.elim
 simp only[List.append_nil]at Q9 hB
 subst Q9
 obtain⟨as,iI,hss,QB⟩:=tK fn.params.toList JN args.toList ds before JM (fun j t v a b=>B5 j t v (by simpa using a) (by simpa using b)) hA hB
 have hc:=B6 hE iI (XE as hss (Nat.le_trans QB hB))
 rw[Array.toArray_toList]at hc
 refine hc.mono fun e W' ⟨he,hg,hold⟩=>⟨_,he,?_⟩
 have hlen:ds.length=fn.params.toList.length:=(trodAll_length hA).2
 have NF:=ye ds hlen
 refine post_of_same (pa:=before) (pv:=[]) hW' (fun b sp hd=>?_) (fun sp zL=>?_) (fun sp _=>?_) (by simp) (hg.frame _) hg.2.1 (fun j t r hj hr=>?_)
 ·rw[List.append_nil,NF,hrt]
  simp only[Value.resultList]
  exact trodAll_mk1 (shut_bool htb _)
 ·rw[List.append_nil,NF]
  refine DataW.TrodAll.respare K hz aw (mN _ _ _ _ hA fun x hx=>?_) zL
  have hb:=hW'.lt x hx
  cases x with
  | cell b o=>simp only[World.sameAt,World.cell?];rw[hold b hb]
  | map b=>exact hold b hb
 ·rw[List.append_nil,NF,LG];rfl
 ·rw[hrt]at hj hr
  cases j with
  | zero=>simp[Value.resultList]at hj hr;subst hj;subst hr;exact okWide_bool_mk htb _
  | succ j=>simp at hj
end
end Go.Rmp
end

section
namespace Go.Rmp
def u2 (R:av)(H:af):List Rd→Prop
 | []=>True
 | r :: l=>(bO R r.g=true→ar R H r.op=some (R r.d,H))∧u2 R H l
theorem na {R:av}{H:af}:∀(l:List Rd),u2 R H l→jO R H l
 | [],_=>fun r h=>by cases h
 | x :: l,h=>fun r hr=>by
  rcases List.mem_cons.1 hr with rfl|hr
  ·exact h.1
  ·exact na l h.2 r hr
theorem Ec (R:av)(d:Nat)(v:T):bC R (some d) v=oH R d v:=rfl
theorem Ed (R:av)(v:T):bC R none v=R:=rfl
theorem Ee (R:av)(d:Nat)(v:T)(t:Nat):oH R d v t=if t=d then v else R t:=rfl
theorem Ai (a:T)(l:List T):gF (a :: l) 0=a:=rfl
theorem RM (R:av)(t:Nat):X.ev R (.r t)=R t:=rfl
theorem RN (R:av)(v:T):X.ev R (.c v)=v:=rfl
def Ef (R:av)(g:Gd)(s:List Rd):Bo→Prop
 | .mU _ c x y=>g=none∧s=[]∧c=.slice∧x.ev R=.sl .arg []∧y.ev R=.sl .nil []
 | _=>False
structure XF (E:Env)(R:av)(H:af)(x:X)(az:List X)(P:af→Bool→Prop)(b n:Nat)(R0:av)(ps:List Nat)(b6 body:C)(M1 M:Out→af→Prop):Prop where
 hf:x.ev R=.nu b
 hb:H[b]?=some (.loop .ready none n R0 ps b6 body)
 hn:az.length=ps.length
 h1:W E (.code b6 (iP R0 ps (az.map (X.ev R)))) H M1
 Bp:∀o H',M1 o H'→(∃R1,o=.ex .normal R1)∧H'[b]?=some (.loop .ready none n R0 ps b6 body)
 h2:∀R1 H1,M1 (.ex .normal R1) H1→W E (.code body R1) (H1.set b (.loop .busy none n R0 ps b6 body)) M
 Bq:∀o H',M o H'→H'[b]?=some (.loop .busy none n R0 ps b6 body)
 h3:∀R' H',M (.ex .normal R') H'→P (H'.set b (.loop .ready none n R0 ps b6 body)) true
 h4:∀e R' H',M (.ex e R') H'→e≠.normal→P (H'.set b (.loop .done (some e) n R0 ps b6 body)) false
def fB (E:Env):List O→av→af→(av→af→Prop)→Prop
 | [],R,H,K=>K R H
 | ⟨d,.b b,g,s⟩ :: l,R,H,K=>match bO R g with
  | false=>fB E l (bC R d b0) H K
  | true=>match ar R H b with
   | some (v,H')=>u2 R H' s∧fB E l (bC R d v) H' K
   | none=>(Ef R g s b∧∀t:Bool,fB E l (bC R d (.bool t)) H K) ∨
    ∃x bb bi es ix cur,b=.qh x∧x.ev R=.ptr bi 0∧H[bb]?=some (.cT es ix bi cur)∧∀t H',nE H bb bi es ix t H'→u2 R H' s∧fB E l (bC R d t) H' K
 | ⟨d,.call f az,g,s⟩ :: l,R,H,K=>match bO R g with
  | false=>fB E l (bC R d b0) H K
  | true=>∃M:Out→af→Prop,W E (.call f (az.map (X.ev R))) H M∧∀v H',M (.val v) H'→u2 R H' s∧fB E l (bC R d v) H' K
 | ⟨d,.bD x az,g,s⟩ :: l,R,H,K=>match bO R g with
  | false=>fB E l (bC R d b0) H K
  | true=>(∃(f:Nat) (cs:List T) (M:Out→af→Prop),x.ev R=.fn f cs∧W E (.call f (az.map (X.ev R)++cs)) H M∧∀v H',M (.val v) H'→u2 R H' s∧fB E l (bC R d v) H' K) ∨
   ∃b n R0 ps b6 body M1 M,XF E R H x az (fun H' t=>u2 R H' s∧fB E l (bC R d (.bool t)) H' K) b n R0 ps b6 body M1 M
theorem ig {E:Env}{Q:Out→af→Prop}:∀(l:List O) (R:av) (H:af),fB E l R H (fun R' H'=>Q (.ex .normal R') H')→W E (.ops l R) H Q
 | [],R,H,h=>.nil h
 | ⟨d,.b b,g,s⟩ :: l,R,H,h=>by
  simp only[fB]at h
  split at h
  ·rename_i hw;exact .no hw (ig l _ _ h)
  ·rename_i hw
   split at h
   ·rename_i v H' he;exact .op hw he (na _ h.1) (ig l _ _ h.2)
   ·rcases h with h|⟨x,bb,bi,es,ix,cur,rfl,hx,hb,h⟩
    ·cases b with
     | mU neg c x y =>
      obtain⟨⟨hg,hs,hc,hx,hy⟩,h⟩:=h
      subst hg
      exact .Bn hs (fun t=>ig l _ _ (h t)) hx hy hc
     | _=>exact h.1.elim
    ·exact .qh hw hx hb (fun t H' hm=>na _ (h t H' hm).1) fun t H' hm=>ig l _ _ (h t H' hm).2
 | ⟨d,.call f az,g,s⟩ :: l,R,H,h=>by
  simp only[fB]at h
  split at h
  ·rename_i hw;exact .no hw (ig l _ _ h)
  ·rename_i hw
   obtain⟨M,h1,h2⟩:=h
   exact .call M hw h1 (fun v H' hm=>na _ (h2 v H' hm).1) (fun v H' hm=>ig l _ _ (h2 v H' hm).2)
 | ⟨d,.bD x az,g,s⟩ :: l,R,H,h=>by
  simp only[fB]at h
  split at h
  ·rename_i hw;exact .no hw (ig l _ _ h)
  ·rename_i hw
   rcases h with⟨f,cs,M,hf,h1,h2⟩|⟨b,n,R0,ps,b6,body,M1,M,h⟩
   ·exact .bD M hw hf h1 (fun v H' hm=>na _ (h2 v H' hm).1) (fun v H' hm=>ig l _ _ (h2 v H' hm).2)
   ·exact .nu M1 M hw h.hf h.hb h.hn h.h1 h.Bp h.h2 h.Bq (fun R' H' hm=>na _ (h.h3 R' H' hm).1) (fun R' H' hm=>ig l _ _ (h.h3 R' H' hm).2) (fun e R' H' hm he=>na _ (h.h4 e R' H' hm he).1) (fun e R' H' hm he=>ig l _ _ (h.h4 e R' H' hm he).2)
def nU (K:av→af→Prop)(Q:Out→af→Prop):Out→af→Prop
 | .ex .normal R,H=>K R H
 | o,H=>Q o H
def kd (id:Nat)(Q:Out→af→Prop):Out→af→Prop
 | .ex (.exit i) R,H=>if i=id then Q (.ex .normal R) H else Q (.ex (.exit i) R) H
 | o,H=>Q o H
def eV (E:Env):C→av→af→(Out→af→Prop)→Prop
 | .skip,R,H,Q=>Q (.ex .normal R) H
 | .ops l,R,H,Q=>fB E l R H fun R' H'=>Q (.ex .normal R') H'
 | .seq a b,R,H,Q=>eV E a R H (nU (fun R' H'=>eV E b R' H' Q) Q)
 | .cond x a b,R,H,Q=>match x.ev R with
  | .bool true=>eV E a R H Q
  | .bool false=>eV E b R H Q
  | _=>False
 | .block id a,R,H,Q=>eV E a R H (kd id Q)
 | .exit id,R,H,Q=>Q (.ex (.exit id) R) H
 | .ret,R,H,Q=>Q (.ex .ret R) H
 | .loop a,R,H,Q=>W E (.code (.loop a) R) H Q
 | .cL n x ps a b,R,H,Q=>W E (.code (.cL n x ps a b) R) H Q
theorem ik {E:Env}:∀(c:C) (R:av) (H:af) (Q:Out→af→Prop),eV E c R H Q→W E (.code c R) H Q
 | .skip,R,H,Q,h=>.skip h
 | .ops l,R,H,Q,h=>.Qg (ig l R H h)
 | .seq a b,R,H,Q,h=>.seq _ (ik a R H _ h) (fun R' H' hm=>ik b R' H' Q hm) (fun o H' hm hn=>by
  cases o with
  | ex e R'=>cases e with
   | normal=>exact absurd rfl (hn R')
   | exit id=>exact hm
   | ret=>exact hm
  | val v=>exact hm)
 | .cond x a b,R,H,Q,h=>by
  simp only[eV]at h
  split at h
  ·rename_i hx;exact .cond true hx (ik a R H Q h)
  ·rename_i hx;exact .cond false hx (ik b R H Q h)
  ·exact h.elim
 | .block id a,R,H,Q,h=>.block _ (ik a R H _ h) (fun R' H' hm=>by simpa[kd]using hm) (fun o H' hm hn=>by
  cases o with
  | ex e R'=>cases e with
   | normal=>exact hm
   | exit i =>
    simp only[kd]at hm
    split at hm
    ·rename_i e;subst e;exact absurd rfl (hn R')
    ·exact hm
   | ret=>exact hm
  | val v=>exact hm)
 | .exit id,R,H,Q,h=>.exit h
 | .ret,R,H,Q,h=>.ret h
 | .loop a,R,H,Q,h=>h
 | .cL n x ps a b,R,H,Q,h=>h
section
variable (E:Env) (R:av) (H:af) (K:av→af→Prop) (Q:Out→af→Prop) (l:List O) (d:Option Nat) (s:List Rd)
def V9:T→Bool
 | .bool c=>c
 | _=>false
def Wa:T→Bool
 | .bool c=>!c
 | _=>false
def lE (b:Bo)(g:Gd)(e:Option (T×af)):Prop:=match e with
 | some (v,H')=>u2 R H' s∧fB E l (bC R d v) H' K
 | none=>(Ef R g s b∧∀t:Bool,fB E l (bC R d (.bool t)) H K) ∨
  ∃x bb bi es ix cur,b=.qh x∧x.ev R=.ptr bi 0∧H[bb]?=some (.cT es ix bi cur)∧∀t H',nE H bb bi es ix t H'→u2 R H' s∧fB E l (bC R d t) H' K
def JO (b:Bo)(g:Gd)(w:Bool):Prop:=match w with
 | false=>fB E l (bC R d b0) H K
 | true=>lE E R H K l d s b g (ar R H b)
def RO (v:T)(H':af):Prop:=u2 R H' s∧fB E l (bC R d v) H' K
def xi (f:Nat)(az:List T):Prop:=∃M:Out→af→Prop,W E (.call f az) H M∧∀v H',M (.val v) H'→RO E R K l d s v H'
def JP (f:Nat)(az:List X)(w:Bool):Prop:=match w with
 | false=>fB E l (bC R d b0) H K
 | true=>xi E R H K l d s f (az.map (X.ev R))
def cz (t:T)(az:List X):Prop:=match t with
 | .fn f cs=>xi E R H K l d s f (az.map (X.ev R)++cs)
 | _=>False
def LH (R:av)(H:af):Prop:=Q (.ex .normal R) H
def LI (b:C)(R:av)(H:af):Prop:=eV E b R H Q
def tM (a b:C)(t:T):Prop:=match t with
 | .bool true=>eV E a R H Q
 | .bool false=>eV E b R H Q
 | _=>False
theorem LJ:fB E [] R H K=K R H:=rfl
theorem b_b (b:Bo):fB E (⟨d,.b b,none,s⟩ :: l) R H K=lE E R H K l d s b none (ar R H b):=rfl
theorem b_g (b:Bo)(g:Nat×Bool):fB E (⟨d,.b b,some g,s⟩ :: l) R H K=JO E R H K l d s b (some g) (bO R (some g)):=by simp only[fB,JO];rfl
theorem b_c (f:Nat)(az:List X):fB E (⟨d,.call f az,none,s⟩ :: l) R H K=xi E R H K l d s f (az.map (X.ev R)):=rfl
theorem RP (f:Nat)(az:List X)(g:Nat×Bool):fB E (⟨d,.call f az,some g,s⟩ :: l) R H K=JP E R H K l d s f az (bO R (some g)):=by simp only[fB,JP];rfl
theorem Wc {x:X}{az:List X}(h:cz E R H K l d s (x.ev R) az):fB E (⟨d,.bD x az,none,s⟩ :: l) R H K:=by
 unfold cz at h
 split at h
 ·rename_i f cs hx
  obtain⟨M,h1,h2⟩:=h
  exact .inl ⟨f,cs,M,hx,h1,h2⟩
 ·exact h.elim
theorem lF {g:Gd}{x:X}{az:List X}(hg:bO R g=true)(h:cz E R H K l d s (x.ev R) az):fB E (⟨d,.bD x az,g,s⟩ :: l) R H K:=by
 simp only[fB,hg]
 unfold cz at h
 split at h
 ·rename_i f cs hx
  obtain⟨M,h1,h2⟩:=h
  exact .inl ⟨f,cs,M,hx,h1,h2⟩
 ·exact h.elim
theorem RQ {g:Nat×Bool}{x:X}{az:List X}(hg:bO R (some g)=false):fB E (⟨d,.bD x az,some g,s⟩ :: l) R H K=fB E l (bC R d b0) H K:=by
 simp only[fB,hg]
theorem Eg (neg:Bool)(c:Iv)(x y:X):lE E R H K l d s (.mU neg c x y) none none=((s=[]∧c=.slice∧x.ev R=.sl .arg []∧y.ev R=.sl .nil [])∧∀t:Bool,fB E l (bC R d (.bool t)) H K):=by simp only[lE,Ef,true_and,reduceCtorEq,false_and,exists_false,or_false]
theorem yS {x:X}{g:Gd}{bb bi:Nat}{es:List (T×T)}{ix:List Nat}{cur:Option Nat}(hx:x.ev R=.ptr bi 0)(hb:H[bb]?=some (.cT es ix bi cur))(h:∀t H',nE H bb bi es ix t H'→u2 R H' s∧fB E l (bC R d t) H' K):lE E R H K l d s (.qh x) g none:=.inr ⟨x,bb,bi,es,ix,cur,rfl,hx,hb,h⟩
theorem Eh (b:Bo)(g:Gd)(v:T)(H':af):lE E R H K l d s b g (some (v,H'))=(u2 R H' s∧fB E l (bC R d v) H' K):=rfl
theorem LK (b:Bo)(g:Gd):JO E R H K l d s b g true=lE E R H K l d s b g (ar R H b):=rfl
theorem LL (b:Bo)(g:Gd):JO E R H K l d s b g false=fB E l (bC R d b0) H K:=rfl
theorem Ei (f:Nat)(az:List X):JP E R H K l d s f az true=xi E R H K l d s f (az.map (X.ev R)):=rfl
theorem Ej (f:Nat)(az:List X):JP E R H K l d s f az false=fB E l (bC R d b0) H K:=rfl
theorem ae {f:Nat}{az:List T}(M:Out→af→Prop)(h1:W E (.call f az) H M)(h2:∀v H',M (.val v) H'→u2 R H' s∧fB E l (bC R d v) H' K):xi E R H K l d s f az:=⟨M,h1,h2⟩
theorem Ek:eV E .skip R H Q=Q (.ex .normal R) H:=rfl
theorem LM:eV E (.ops l) R H Q=fB E l R H (LH Q):=rfl
theorem Aj:LH Q R H=Q (.ex .normal R) H:=rfl
theorem fK (a b:C):eV E (.seq a b) R H Q=eV E a R H (nU (LI E Q b) Q):=rfl
theorem El (x:X)(a b:C):eV E (.cond x a b) R H Q=tM E R H Q a b (x.ev R):=rfl
theorem qp (id:Nat)(a:C):eV E (.block id a) R H Q=eV E a R H (kd id Q):=rfl
theorem Em (id:Nat):eV E (.exit id) R H Q=Q (.ex (.exit id) R) H:=rfl
theorem LN:eV E .ret R H Q=Q (.ex .ret R) H:=rfl
theorem En (a:C):eV E (.loop a) R H Q=W E (.code (.loop a) R) H Q:=rfl
theorem Ak (n:Nat)(x:X)(ps:List Nat)(a b:C):eV E (.cL n x ps a b) R H Q=W E (.code (.cL n x ps a b) R) H Q:=rfl
theorem cR (b:C):LI E Q b R H=eV E b R H Q:=rfl
theorem Eo (a b:C):tM E R H Q a b (.bool true)=eV E a R H Q:=rfl
theorem Ep (a b:C):tM E R H Q a b (.bool false)=eV E b R H Q:=rfl
theorem dR (R:av)(H:af):nU K Q (.ex .normal R) H=K R H:=rfl
theorem Er (R:av)(H:af):nU K Q (.ex .ret R) H=Q (.ex .ret R) H:=rfl
theorem Es (id:Nat)(R:av)(H:af):nU K Q (.ex (.exit id) R) H=Q (.ex (.exit id) R) H:=rfl
theorem LO (id:Nat)(R:av)(H:af):kd id Q (.ex .normal R) H=Q (.ex .normal R) H:=rfl
theorem LP (id:Nat)(R:av)(H:af):kd id Q (.ex .ret R) H=Q (.ex .ret R) H:=rfl
theorem LQ (id i:Nat)(R:av)(H:af):kd id Q (.ex (.exit i) R) H=if i=id then Q (.ex .normal R) H else Q (.ex (.exit i) R) H:=rfl
theorem Et (t:Nat):bO R (some (t,true))=V9 (R t):=by cases h:R t<;>simp[bO,V9,h]
theorem Eu (t:Nat):bO R (some (t,false))=Wa (R t):=by cases h:R t<;>simp[bO,Wa,h]
theorem LR (c:Bool):V9 (.bool c)=c:=rfl
theorem LS:V9 b0=false:=rfl
theorem LU:Wa b0=false:=rfl
theorem LV (c:Bool):Wa (.bool c)=!c:=rfl
end
theorem W.cH {E:Env}{α:Type}{a:C}{R:av}{H:af}{Q:Out→af→Prop}(I:α→av→af→Prop)(μ:α→Nat)(x:α)(h0:I x R H)
  (step:∀x R H,I x R H→eV E a R H (nU (fun R' H'=>∃y,μ y<μ x∧I y R' H') Q)):W E (.code (.loop a) R) H Q:=by
 have key:∀(n:Nat) (x:α) (R:av) (H:af),μ x=n→I x R H→W E (.code (.loop a) R) H Q:=by
  intro n
  induction n using Nat.strongRecOn with
  | _ n ih =>
   intro x R H hn hI
   refine .loop _ (ik a R H _ (step x R H hI)) (fun R' H' hm=>?_) (fun o H' hm gI=>?_)
   ·obtain⟨y,hy,XG⟩:=hm
    exact ih (μ y) (hn▸hy) y R' H' rfl XG
   ·cases o with
    | ex e R'=>cases e with
     | normal=>exact absurd rfl (gI R')
     | exit id=>exact hm
     | ret=>exact hm
    | val v=>exact hm
 exact key _ x R H rfl h0
def yT (res:List Rs)(Q:Out→af→Prop):Out→af→Prop
 | .ex .normal R,H | .ex .ret R,H=>match p0 R H res with
  | some v=>Q (.val v) H
  | none=>False
 | _,_=>False
theorem W.bU {E:Env}{f:Nat}{fn:Fn}{az:List T}{H:af}{Q:Out→af→Prop}(hf:E.fn f=some fn)(hr:fn.body.mz=false)(hn:az.length=fn.np)(h:eV E fn.body (gF az) H (yT fn.res Q)):W E (.call f az) H Q:=by
 refine .fn _ hf hr hn (ik _ _ _ _ h) fun o H' hm=>?_
 cases o with
 | ex e R =>
  cases e with
  | normal=>simp only[yT]at hm;split at hm;exact⟨R,.inl rfl,_,by assumption,hm⟩;exact hm.elim
  | exit id=>exact hm.elim
  | ret=>simp only[yT]at hm;split at hm;exact⟨R,.inr rfl,_,by assumption,hm⟩;exact hm.elim
 | val v=>exact hm.elim
def RR (n:Nat)(res:List Rs)(Q:Out→af→Prop):Out→af→Prop
 | .ex .normal R,H | .ex .ret R,H=>∃bs,marks (R n)=some bs∧bs.Nodup∧(∀b∈bs,H[b]?=some .zE)∧match p0 R (kill H bs) res with
  | some v=>Q (.val v) (kill H bs)
  | none=>False
 | _,_=>False
theorem W.RS {E:Env}{f:Nat}{fn:Fn}{az:List T}{H:af}{Q:Out→af→Prop}(hf:E.fn f=some fn)(hn:az.length=fn.np)(h:eV E fn.body (gF az) H (RR fn.n fn.res Q)):W E (.call f az) H Q:=by
 refine .Qh _ hf hn (ik _ _ _ _ h) fun o H' hm=>?_
 cases o with
 | ex e R =>
  cases e with
  | normal=>obtain⟨bs,h1,h2,h3,h4⟩:=hm;split at h4;exact⟨R,bs,.inl rfl,h1,h2,h3,_,by assumption,h4⟩;exact h4.elim
  | exit id=>exact hm.elim
  | ret=>obtain⟨bs,h1,h2,h3,h4⟩:=hm;split at h4;exact⟨R,bs,.inr rfl,h1,h2,h3,_,by assumption,h4⟩;exact h4.elim
 | val v=>exact hm.elim
theorem W.Ev {E:Env}{n:Nat}{x:X}{ps:List Nat}{b6 body:C}{R:av}{H:af}{Q:Out→af→Prop}{f:Nat}{cs:List T}(hx:x.ev R=.fn f cs)
  (h:W E (.call f (.nu (H.length+1) :: cs)) (H++[.zE,.loop .ready none n R ps b6 body]) (fun _ H'=>H'[H.length+1]?=some (.loop .ready none n R ps b6 body)∧Q (.ex .normal (oH R n (nD (R n) H.length))) (H'.set (H.length+1) .dead))) :
  W E (.code (.cL n x ps b6 body) R) H Q :=
 .cL _ hx h fun _ _ hm=>⟨.ready,none,by simp,by simp,hm.1,hm.2⟩
theorem LW {E:Env}{R:av}{H:af}{K:av→af→Prop}{l:List O}{d:Option Nat}{s:List Rd}{x:X}{az:List X}{b n:Nat}{R0:av}{ps:List Nat}{b6 body:C}
  (hf:x.ev R=.nu b) (hb:H[b]?=some (.loop .ready none n R0 ps b6 body)) (hn:az.length=ps.length)
  (h:eV E b6 (iP R0 ps (az.map (X.ev R))) H (fun o H1=>∃R1,o=.ex .normal R1∧H1[b]?=some (.loop .ready none n R0 ps b6 body) ∧
   eV E body R1 (H1.set b (.loop .busy none n R0 ps b6 body)) (fun o H2=>∃R2,o=.ex .normal R2∧H2[b]?=some (.loop .busy none n R0 ps b6 body) ∧
    u2 R (H2.set b (.loop .ready none n R0 ps b6 body)) s∧fB E l (bC R d (.bool true)) (H2.set b (.loop .ready none n R0 ps b6 body)) K))) :
  fB E (⟨d,.bD x az,none,s⟩ :: l) R H K:=by
 refine .inr ⟨b,n,R0,ps,b6,body,_,fun o H2=>∃R2,o=.ex .normal R2∧H2[b]?=some (.loop .busy none n R0 ps b6 body)∧u2 R (H2.set b (.loop .ready none n R0 ps b6 body)) s∧fB E l (bC R d (.bool true)) (H2.set b (.loop .ready none n R0 ps b6 body)) K,hf,hb,hn,ik _ _ _ _ h,?_,?_,?_,?_,?_⟩
 ·rintro o H'⟨R1,rfl,h1,_⟩;exact⟨⟨R1,rfl⟩,h1⟩
 ·rintro R1 H1⟨_,h0,h1,h2⟩;cases h0;exact ik _ _ _ _ h2
 ·rintro o H'⟨_,_,h,_⟩;exact h
 ·rintro R' H'⟨_,h0,_,h⟩;exact h
 ·rintro e R' H'⟨_,h0,_⟩ bK;cases h0;exact absurd rfl bK
theorem W.use {E:Env}{j:J}{H:af}{Q Q':Out→af→Prop}(h:W E j H Q)(hq:∀o H',Q o H'→Q' o H'):W E j H Q':=by
 induction h generalizing Q' with
 | skip h=>exact .skip (hq _ _ h)
 | exit h=>exact .exit (hq _ _ h)
 | ret h=>exact .ret (hq _ _ h)
 | Qg _ ih=>exact .Qg (ih hq)
 | seq M h1 h2 h3 _ nz=>exact .seq M h1 (fun R' H' hm=>nz R' H' hm hq) (fun o H' hm hn=>hq _ _ (h3 o H' hm hn))
 | cond t hx _ ih=>exact .cond t hx (ih hq)
 | block M h1 h2 h3 _=>exact .block M h1 (fun R' H' hm=>hq _ _ (h2 R' H' hm)) (fun o H' hm hn=>hq _ _ (h3 o H' hm hn))
 | loop M h1 h2 h3 _ nz=>exact .loop M h1 (fun R' H' hm=>nz R' H' hm hq) (fun o H' hm hn=>hq _ _ (h3 o H' hm hn))
 | nil h=>exact .nil (hq _ _ h)
 | no hg _ ih=>exact .no hg (ih hq)
 | op hg he hs _ ih=>exact .op hg he hs (ih hq)
 | call M hg h1 hs _ _ nz=>exact .call M hg h1 hs (fun v H' hm=>nz v H' hm hq)
 | bD M hg hf h1 hs _ _ nz=>exact .bD M hg hf h1 hs (fun v H' hm=>nz v H' hm hq)
 | nu M1 M hg hf hb hn h1 Bp h2 Bq zG _ CP _ _ _ Qz QA=>exact .nu M1 M hg hf hb hn h1 Bp h2 Bq zG (fun R' H' hm=>Qz R' H' hm hq) CP (fun e R' H' hm he=>QA e R' H' hm he hq)
 | Bn hs h hx hy hc ih=>exact .Bn hs (fun b=>ih b hq) hx hy hc
 | cL M hx h1 h2 _=>exact .cL M hx h1 (fun v H' hm=>let ⟨st,pe,a,b,c,d⟩:=h2 v H' hm;⟨st,pe,a,b,c,hq _ _ d⟩)
 | Qh M hf hn h1 h2 _=>exact .Qh M hf hn h1 (fun o H' hm=>let ⟨R',bs,a,b,c,d,v,e,f⟩:=h2 o H' hm;⟨R',bs,a,b,c,d,v,e,hq _ _ f⟩)
 | fn M hf hr hn h1 h2 _=>exact .fn M hf hr hn h1 (fun o H' hm=>let ⟨R',a,v,b,c⟩:=h2 o H' hm;⟨R',a,v,b,hq _ _ c⟩)
 | Br i M hi h1 h2 _=>exact .Br i M hi h1 (fun v H' hm=>hq _ _ (h2 v H' hm))
 | qa M h1 h2 _=>exact .qa M h1 (fun o H' hm=>let ⟨v,b,cs,a,c,d,e⟩:=h2 o H' hm;⟨v,b,cs,a,c,d,hq _ _ e⟩)
 | qh hg hx hb hs _ ih=>exact .qh hg hx hb hs fun t H' hm=>ih t H' hm hq
 | shr M h1 h2 _=>exact .shr M h1 (fun o H' hm=>let ⟨v,b,cs,k,a,c,d,e⟩:=h2 o H' hm;⟨v,b,cs,k,a,c,d,hq _ _ e⟩)
 | Dg i hi hb _ ih=>exact .Dg i hi hb (ih hq)
 | oO h=>exact .oO (E.mono _ _ _ _ _ h fun t H' hm=>hq _ _ hm)
theorem cN {E:Env}{K K':av→af→Prop}(hk:∀R H,K R H→K' R H):∀(l:List O) (R:av) (H:af),fB E l R H K→fB E l R H K'
 | [],R,H,h=>hk _ _ h
 | ⟨d,.b b,g,s⟩ :: l,R,H,h=>by
  simp only[fB]at h ⊢
  split at h
  ·exact cN hk l _ _ h
  ·split at h
   ·exact⟨h.1,cN hk l _ _ h.2⟩
   ·rcases h with h|⟨x,bb,bi,es,ix,cur,e,hx,hb,h⟩
    ·exact .inl ⟨h.1,fun t=>cN hk l _ _ (h.2 t)⟩
    ·exact .inr ⟨x,bb,bi,es,ix,cur,e,hx,hb,fun t H' hm=>⟨(h t H' hm).1,cN hk l _ _ (h t H' hm).2⟩⟩
 | ⟨d,.call f az,g,s⟩ :: l,R,H,h=>by
  simp only[fB]at h ⊢
  split at h
  ·exact cN hk l _ _ h
  ·obtain⟨M,h1,h2⟩:=h
   exact⟨M,h1,fun v H' hm=>⟨(h2 v H' hm).1,cN hk l _ _ (h2 v H' hm).2⟩⟩
 | ⟨d,.bD x az,g,s⟩ :: l,R,H,h=>by
  simp only[fB]at h ⊢
  split at h
  ·exact cN hk l _ _ h
  ·rcases h with⟨f,cs,M,hf,h1,h2⟩|⟨b,n,R0,ps,b6,body,M1,M,h⟩
   ·exact .inl ⟨f,cs,M,hf,h1,fun v H' hm=>⟨(h2 v H' hm).1,cN hk l _ _ (h2 v H' hm).2⟩⟩
   ·exact .inr ⟨b,n,R0,ps,b6,body,M1,M,⟨h.hf,h.hb,h.hn,h.h1,h.Bp,h.h2,h.Bq,fun R' H' hm=>⟨(h.h3 R' H' hm).1,cN hk l _ _ (h.h3 R' H' hm).2⟩,fun e R' H' hm he=>⟨(h.h4 e R' H' hm he).1,cN hk l _ _ (h.h4 e R' H' hm he).2⟩⟩⟩
theorem cO {E:Env}:∀(c:C) (R:av) (H:af) {Q Q':Out→af→Prop},(∀o H,Q o H→Q' o H)→eV E c R H Q→eV E c R H Q'
 | .skip,R,H,Q,Q',hq,h=>hq _ _ h
 | .ops l,R,H,Q,Q',hq,h=>cN (fun R H h=>hq _ _ h) l R H h
 | .seq a b,R,H,Q,Q',hq,h=>cO a R H (fun o H' h=>by
  cases o with
  | ex e R'=>cases e with
   | normal=>exact cO b R' H' hq h
   | exit id=>exact hq _ _ h
   | ret=>exact hq _ _ h
  | val v=>exact hq _ _ h) h
 | .cond x a b,R,H,Q,Q',hq,h=>by
  simp only[eV]at h ⊢
  split at h
  ·exact cO a R H hq h
  ·exact cO b R H hq h
  ·exact h.elim
 | .block id a,R,H,Q,Q',hq,h=>cO a R H (fun o H' h=>by
  cases o with
  | ex e R'=>cases e with
   | normal=>exact hq _ _ h
   | exit i=>simp only[kd]at h ⊢;split at h<;>(rename_i e;simp only[e,if_true,if_false];exact hq _ _ h)
   | ret=>exact hq _ _ h
  | val v=>exact hq _ _ h) h
 | .exit id,R,H,Q,Q',hq,h=>hq _ _ h
 | .ret,R,H,Q,Q',hq,h=>hq _ _ h
 | .loop a,R,H,Q,Q',hq,h=>W.use h hq
 | .cL n x ps a b,R,H,Q,Q',hq,h=>W.use h hq
def oL (v:T)(H:af):Out→af→Prop:=fun o H'=>o=.val v∧H'=H
theorem Al (v v':T)(H H':af):oL v H (.val v') H'=(v'=v∧H'=H):=by simp[oL]
theorem Am (a b:T)(l:List T):gF (a :: b :: l) 1=b:=rfl
theorem Ao (a b c:T)(l:List T):gF (a :: b :: c :: l) 2=c:=rfl
theorem Ap (a b c d:T)(l:List T):gF (a :: b :: c :: d :: l) 3=d:=rfl
theorem Aq (a b c d e:T)(l:List T):gF (a :: b :: c :: d :: e :: l) 4=e:=rfl
def Ew (v:T)(H:af):Out→af→Prop:=fun o H'=>o=.val v∧∃l,H'=H++l
theorem xj (v v':T)(H l:af):Ew v H (.val v') (H++l)=(v'=v):=by simp[Ew]
theorem tN (v v':T)(H:af):Ew v H (.val v') H=(v'=v):=by
 simp only[Ew,Out.val.injEq,eq_iff_iff]
 exact⟨fun h=>h.1,fun h=>⟨h,[],by simp⟩⟩
theorem aa (k:IntKind)(n:Nat):cq (.int k (n:Int))=some n:=by simp[cq]
theorem wrap64 {n:Int}(h:-9223372036854775808≤n∧n<9223372036854775808):IntKind.i64.wrap n=n:=by
 unfold IntKind.wrap
 simp only[IntKind.signed,IntKind.bits]
 simp
 omega
theorem u3 {n:Int}(h:0≤n∧n<18446744073709551616):IntKind.u64.wrap n=n:=by
 unfold IntKind.wrap
 simp only[IntKind.signed,IntKind.bits]
 simp
 omega
theorem aC {i:Nat}(h:i<9223372036854775807):IntKind.i64.wrap ((i:Int)+1)=((i+1:Nat):Int):=by rw[wrap64 (by omega)];simp
theorem l3 {i:Nat}(h:i<9223372036854775807)(h1:1≤i):IntKind.i64.wrap ((i:Int)-1)=((i-1:Nat):Int):=by rw[wrap64 (by omega)];omega
theorem RT (v:T):valOf false [v]=some v:=rfl
theorem RU (cs:List T):valOf true cs=some (.agg cs):=rfl
theorem Wd (a b:Nat):decide ((a:Int)<(b:Int))=decide (a<b):=by simp
theorem We (a b:Nat):decide ((a:Int)≤(b:Int))=decide (a≤b):=by simp
theorem RW (a b:Nat):((a:Int)==(b:Int))=decide (a=b):=by rw[Bool.eq_iff_iff];simp;omega
theorem XH (a b:Nat):((a:Int) != (b:Int))=!decide (a=b):=by rw[Bool.eq_iff_iff];simp;omega
theorem Ey:∀(a:List UInt8),Op.bytesLess a a=false
 | []=>rfl
 | x :: a=>by simp[Op.bytesLess,Ey a]
theorem xk:∀(a b c:List UInt8),Op.bytesLess a b=true→Op.bytesLess b c=true→Op.bytesLess a c=true
 | _,[],_,h,_=>by cases ‹List UInt8›<;>simp[Op.bytesLess]at h
 | _,_ :: _,[],_,h=>by simp[Op.bytesLess]at h
 | [],_ :: _,_ :: _,_,_=>rfl
 | x :: a,y :: b,z :: c,h1,h2=>by
  simp only[Op.bytesLess,Bool.or_eq_true,decide_eq_true_eq,Bool.and_eq_true,beq_iff_eq]at h1 h2 ⊢
  rcases h1 with h1|⟨rfl,h1⟩
  ·rcases h2 with h2|⟨rfl,h2⟩
   ·exact .inl (UInt8.lt_trans h1 h2)
   ·exact .inl h1
  ·rcases h2 with h2|⟨rfl,h2⟩
   ·exact .inl h2
   ·exact .inr ⟨rfl,xk a b c h1 h2⟩
theorem Ez:∀(a b:List UInt8),Op.bytesLess a b=false→Op.bytesLess b a=false→a=b
 | [],[],_,_=>rfl
 | [],_ :: _,h,_=>by simp[Op.bytesLess]at h
 | _ :: _,[],_,h=>by simp[Op.bytesLess]at h
 | x :: a,y :: b,h1,h2=>by
  simp only[Op.bytesLess,Bool.or_eq_false_iff,decide_eq_false_iff_not,Bool.and_eq_false_iff,beq_eq_false_iff_ne]at h1 h2
  have e:x=y:=by
   have a1:=h1.1;have a2:=h2.1
   exact UInt8.le_antisymm (UInt8.not_lt.1 a2) (UInt8.not_lt.1 a1)
  subst e
  rw[Ez a b (h1.2.resolve_left (fun h=>h rfl)) (h2.2.resolve_left (fun h=>h rfl))]
theorem toList_inj {a b:ByteArray}(h:a.toList=b.toList):a=b:=by
 have e:∀c:ByteArray,c.toList=c.data.toList:=fun c=>Go.ByteArray.toList_eq c
 rw[e,e]at h
 cases a;cases b
 simp only[ByteArray.mk.injEq]
 exact Array.toList_inj.1 h
theorem gr (a b:ByteArray):jx a b=decide (a=b):=by
 unfold jx
 rw[Bool.eq_iff_iff]
 simp only[beq_iff_eq,decide_eq_true_eq]
 exact⟨toList_inj,fun h=>by rw[h]⟩
theorem fk (a:ByteArray):strLt a a=false:=Ey _
theorem eF {a b c:ByteArray}(h1:strLt a b=true)(h2:strLt b c=true):strLt a c=true:=xk _ _ _ h1 h2
theorem rq {a b:ByteArray}(h1:strLt a b=false)(h2:strLt b a=false):a=b:=toList_inj (Ez _ _ h1 h2)
theorem lt_asymm {a b:ByteArray}(h:strLt a b=true):strLt b a=false:=by
 cases e:strLt b a with
 | false=>rfl
 | true=>have:=eF h e;rw[fk]at this;cases this
theorem not_le (a b:ByteArray):(!(strLt b a||jx b a))=strLt a b:=by
 cases h:strLt a b with
 | true =>
  have h1:=lt_asymm h
  have h2:jx b a=false:=by rw[gr];simp;rintro rfl;rw[fk]at h;cases h
  simp[h1,h2]
 | false =>
  cases h1:strLt b a with
  | true=>simp
  | false=>have:=rq h h1;subst this;simp[gr]
def At (H:af)(P:af→Prop):Prop:=P H
theorem At.i {H:af}{P:af→Prop}(h:P H):At H P:=h
def Ext (H H':af):Prop:=∃m,H'=H++m
theorem Ext.rfl' {H:af}:Ext H H:=⟨[],by simp⟩
theorem Ext.trans {H H' wC:af}(h:Ext H H')(h':Ext H' wC):Ext H wC:=by
 obtain⟨a,rfl⟩:=h;obtain⟨b,rfl⟩:=h';exact⟨a++b,by simp⟩
theorem Ext.app {H H':af}(h:Ext H H')(l:af):Ext H (H'++l):=h.trans ⟨l,rfl⟩
theorem Ext.set {H H':af}(h:Ext H H'){b:Nat}(hb:H.length≤b)(x:B):Ext H (H'.set b x):=by
 obtain⟨m,rfl⟩:=h
 exact⟨m.set (b-H.length) x,by rw[List.set_append_right _ _ hb]⟩
theorem Ext.get {H H':af}(h:Ext H H'){b:Nat}{x:B}(hx:H[b]?=some x):H'[b]?=some x:=by
 obtain⟨m,rfl⟩:=h
 have:=(List.getElem?_eq_some_iff.1 hx).1
 rw[List.getElem?_append_left this];exact hx
theorem Ext.len {H H':af}(h:Ext H H'):H.length≤H'.length:=by obtain⟨m,rfl⟩:=h;simp
theorem aY {H:af}{b:Nat}{x:B}(hx:H[b]?=some x):b<H.length:=(List.getElem?_eq_some_iff.1 hx).1
theorem aO {H l:af}{x:B}{b:Nat}(h:b=H.length):(H++x :: l)[b]?=some x:=by subst h;simp
theorem aQ {H l:af}{b:Nat}(h:b<H.length):(H++l)[b]?=H[b]?:=by rw[List.getElem?_append_left h]
theorem bX {H:af}{x:B}{b:Nat}(h:b<H.length):(H.set b x)[b]?=some x:=by simp[h]
theorem bj {H:af}{x:B}{b c:Nat}(h:b≠c):(H.set b x)[c]?=H[c]?:=by simp[h]
theorem u4 {H l:af}{x y:B}{b:Nat}(h:b=H.length):(H++x :: l).set b y=H++y :: l:=by subst h;simp
theorem LX {H l:af}{x:B}{b:Nat}(h:b<H.length):(H++l).set b x=H.set b x++l:=by rw[List.set_append_left _ _ h]
theorem LY {H l:af}{b:Nat}(h:b<H.length):(b<(H++l).length)=True:=by simp;omega
theorem LZ {H:af}{x:B}{b c:Nat}:(b<(H.set c x).length)=(b<H.length):=by simp
theorem L0 {H:af}{x:B}{b c:Nat}:(b=(H.set c x).length)=(b=H.length):=by simp
def ph (n off:Nat):Option B→Option (List T)
 | some (.cells cs)=>if off+n≤cs.length then some ((cs.drop off).take n)else none
 | _=>none
theorem u5 (H:af)(n b off:Nat):nC H n (.ptr b off)=ph n off H[b]?:=by
 simp only[nC,ph];rfl
theorem eY (H:af)(n:Nat)(cs:List T):nC H n (.dk cs)=if n≤cs.length then some (cs.take n)else none:=rfl
theorem nf (n off:Nat)(cs:List T):ph n off (some (.cells cs))=if off+n≤cs.length then some ((cs.drop off).take n)else none:=rfl
def nV (H:af)(b:Nat)(vs:List T)(off:Nat):Option B→Option af
 | some (.cells cs)=>if off+vs.length≤cs.length then some (H.set b (.cells (cs.take off++vs++cs.drop (off+vs.length))))else none
 | _=>none
theorem Ar (H:af)(vs:List T)(b off:Nat):QX H vs (.ptr b off)=nV H b vs off H[b]?:=by
 simp only[QX,nV];rfl
theorem iq (H:af)(b:Nat)(vs:List T)(off:Nat)(cs:List T):nV H b vs off (some (.cells cs))=if off+vs.length≤cs.length then some (H.set b (.cells (cs.take off++vs++cs.drop (off+vs.length))))else none:=rfl
theorem pj (H l:af)(x y:B):(H++x :: l).set H.length y=H++y :: l:=u4 rfl
theorem As (off b o:Nat):wz off (.ptr b o)=some (.ptr b (o+off)):=rfl
def cS (id:Nat)(P:av→af→Prop)(Q:Out→af→Prop):Out→af→Prop
 | .ex (.exit i) R,H=>if i=id then P R H else Q (.ex (.exit i) R) H
 | o,H=>Q o H
theorem RX (id:Nat)(P:av→af→Prop)(Q:Out→af→Prop)(R:av)(H:af):cS id P Q (.ex .normal R) H=Q (.ex .normal R) H:=rfl
theorem RY (id:Nat)(P:av→af→Prop)(Q:Out→af→Prop)(R:av)(H:af):cS id P Q (.ex .ret R) H=Q (.ex .ret R) H:=rfl
theorem RZ (id i:Nat)(P:av→af→Prop)(Q:Out→af→Prop)(R:av)(H:af):cS id P Q (.ex (.exit i) R) H=if i=id then P R H else Q (.ex (.exit i) R) H:=rfl
theorem W.cP {E:Env}{α:Type}{a:C}{R:av}{H:af}{Q:Out→af→Prop}(id:Nat)(I:α→av→af→Prop)(μ:α→Nat)(x:α)(P:av→af→Prop)(h0:I x R H)
  (step:∀x R H,I x R H→eV E a R H (nU (fun R' H'=>∃y,μ y<μ x∧I y R' H') (cS id P Q))) (rest:∀R H,P R H→Q (.ex (.exit id) R) H):W E (.code (.loop a) R) H Q :=
 W.use (W.cH I μ x h0 step) fun o H' h=>by
  cases o with
  | ex e R'=>cases e with
   | exit i=>simp only[cS]at h;split at h;rename_i e;subst e;exact rest _ _ h;exact h
   | normal=>exact h
   | ret=>exact h
  | val v=>exact h
def ai {α β:Type}[DecidableEq α](es:List (α×β))(k:α):Option β:=(es.find? fun e=>decide (k=e.1)).map (·.2)
def cu {α β:Type}[DecidableEq α](es:List (α×β))(k:α)(v:β):List (α×β) :=
 match es.findIdx? fun e=>decide (k=e.1)with
 | some i=>es.set i (k,v)
 | none=>es++[(k,v)]
def mB {α β:Type}[DecidableEq α](es:List (α×β))(k:α):List (α×β) :=
 match es.findIdx? fun e=>decide (k=e.1)with
 | some i=>es.eraseIdx i
 | none=>es
section
variable {α β:Type} [DecidableEq α]
theorem dN (k:α):ai ([]:List (α×β)) k=none:=rfl
theorem bM (e:α×β)(es:List (α×β))(k:α):ai (e :: es) k=if k=e.1 then some e.2 else ai es k:=by
 unfold ai;rw[List.find?_cons];by_cases h:k=e.1<;>simp[h]
theorem EA (k:α)(v:β):cu [] k v=[(k,v)]:=rfl
theorem pn (e:α×β)(es:List (α×β))(k:α)(v:β):cu (e :: es) k v=if k=e.1 then(k,v) :: es else e :: cu es k v:=by
 unfold cu;rw[List.findIdx?_cons]
 by_cases h:k=e.1
 ·simp[h]
 ·simp only[h,decide_false,if_false,Bool.false_eq_true]
  cases List.findIdx? (fun e=>decide (k=e.1)) es<;>simp
theorem br (es:List (α×β))(k k':α)(v:β):ai (cu es k v) k'=if k'=k then some v else ai es k':=by
 induction es with
 | nil=>rw[EA,bM]
 | cons e es ih =>
  rw[pn]
  by_cases h:k=e.1
  ·simp only[h,if_true,bM];by_cases h':k'=e.1<;>simp[h']
  ·simp only[h,if_false,bM,ih]
   by_cases h':k'=e.1
   ·subst h';simp[Ne.symm h]
   ·simp[h']
theorem tO (es:List (α×β))(k:α):ai es k=match es.findIdx? fun e=>decide (k=e.1)with
  | some i=>(es[i]?).map (·.2)
  | none=>none:=by
 induction es with
 | nil=>rfl
 | cons e es ih =>
  rw[bM,List.findIdx?_cons]
  by_cases h:k=e.1
  ·simp[h]
  ·simp only[h,if_false,decide_false,Bool.false_eq_true,ih]
   cases List.findIdx? (fun e=>decide (k=e.1)) es<;>simp
theorem EB {es:List (α×β)}{k:α}{i:Nat}(h:(es.findIdx? fun e=>decide (k=e.1))=some i):∃v,es[i]?=some (k,v):=by
 rw[List.findIdx?_eq_some_iff_getElem]at h
 obtain⟨hi,h,-⟩:=h
 refine⟨es[i].2,?_⟩
 rw[List.getElem?_eq_getElem hi]
 simp only[decide_eq_true_eq]at h
 rw[h]
end
def bh {α:Type}(ek:α→T)(es:List (α×T)):List (T×T):=es.map fun e=>(ek e.1,e.2)
structure ru {α:Type}[DecidableEq α](kt:KT)(ek:α→T):Prop where
 has:∀a,(ek a).jh kt=true
 eq:∀a b,gW (ek a) (ek b)=some (decide (a=b))
section
variable {α:Type} [DecidableEq α] {kt:KT} {ek:α→T}
theorem u6 (ho:ru kt ek)(k:α):∀es:List (α×T),dp (ek k) (bh ek es)=some (es.findIdx? fun e=>decide (k=e.1))
 | []=>rfl
 | e :: es=>by
  have ih:=u6 ho k es
  simp only[bh]at ih ⊢
  simp only[List.map_cons,dp,ho.eq,List.findIdx?_cons]
  cases h:decide (k=e.1)
  ·simp[ih]
  ·simp
def jo (o:Option T)(z:T)(ok:Bool):T:=match o with
 | some v=>if ok then .bJ [v,.bool true]else v
 | none=>if ok then .bJ [z,.bool false]else z
def yU (kt:KT)(z:T)(ok:Bool)(H:af)(mb:Option B)(k:T):Option (T×af):=match mb with
 | some (.map es)=>if k.jh kt then match dp k es with
  | some (some i)=>match es[i]? with
   | some e=>some (if ok then .bJ [e.2,.bool true]else e.2,H)
   | none=>none
  | some none=>some (if ok then .bJ [z,.bool false]else z,H)
  | none=>none else none
 | some (.cT es _ _ _)=>if k.jh kt then match dp k es with
  | some (some i)=>match es[i]? with
   | some e=>some (if ok then .bJ [e.2,.bool true]else e.2,H)
   | none=>none
  | some none=>some (if ok then .bJ [z,.bool false]else z,H)
  | none=>none else none
 | _=>none
def NG (kt:KT)(z:T)(ok:Bool)(H:af)(m k:T):Option (T×af):=match m with
 | .map b=>yU kt z ok H H[b]? k
 | .gA=>if k.jh kt then some (if ok then .bJ [z,.bool false]else z,H)else none
 | _=>none
theorem EC (R:av)(H:af)(kt:KT)(z:T)(ok:Bool)(m k:X):ar R H (.nB kt z ok m k)=NG kt z ok H (m.ev R) (k.ev R):=by
 unfold NG yU
 simp only[ar]
 cases h1:(k.ev R).jh kt
 ·simp only[Bool.false_eq_true,if_false]
  cases m.ev R with
  | map b=>simp only;split<;>rfl
  | _=>rfl
 ·simp only[if_true]
  cases m.ev R with
  | map b =>
   simp only[gE]
   cases H[b]? with
   | none=>rfl
   | some x=>cases x<;>rfl
  | gA=>simp only[gE,dp]
  | _=>rfl
theorem xl (kt:KT)(z:T)(ok:Bool)(H:af)(b:Nat)(k:T):NG kt z ok H (.map b) k=yU kt z ok H H[b]? k:=rfl
theorem lG (ho:ru kt ek)(z:T)(ok:Bool)(H:af)(es:List (α×T))(s:α):yU kt z ok H (some (.map (bh ek es))) (ek s)=some (jo (ai es s) z ok,H):=by
 simp only[yU,ho.has,u6 ho,if_true,tO]
 cases h:List.findIdx? (fun e=>decide (s=e.1)) es with
 | none=>cases ok<;>rfl
 | some i =>
  obtain⟨v,hv⟩:=EB h
  have:(bh ek es)[i]?=some (ek s,v):=by simp[bh,hv]
  simp only[this,hv,jo,Option.map_some]
def xm (kt:KT)(H:af)(b:Nat)(mb:Option B)(k v:T):Option (T×af):=match mb with
 | some (.map es)=>if k.jh kt then match dp k es with
  | some (some i)=>some (b0,H.set b (.map (es.set i (k,v))))
  | some none=>some (b0,H.set b (.map (es++[(k,v)])))
  | none=>none else none
 | _=>none
def NH (kt:KT)(H:af)(m k v:T):Option (T×af):=match m with
 | .map b=>xm kt H b H[b]? k v
 | _=>none
theorem ED (R:av)(H:af)(kt:KT)(m k v:X):ar R H (.zD kt m k v)=NH kt H (m.ev R) (k.ev R) (v.ev R):=by
 unfold NH xm
 simp only[ar]
 cases m.ev R with
 | map b =>
  simp only
  cases h1:(k.ev R).jh kt
  ·simp only[Bool.false_eq_true,if_false];split<;>rfl
  ·simp only[if_true]
   cases H[b]? with
   | none=>rfl
   | some x=>cases x<;>rfl
 | _=>rfl
theorem xn {β γ:Type}(f:β→γ):∀(l:List β) (j:Nat),(l.map f).eraseIdx j=(l.eraseIdx j).map f
 | [],_=>by simp
 | _ :: _,0=>by simp
 | _ :: l,j+1=>by simp[xn f l j]
def EE (kt:KT)(H:af)(b:Nat)(mb:Option B)(k:T):Option (T×af):=match mb with
 | some (.map es)=>if k.jh kt then match dp k es with
  | some (some i)=>some (.bJ [],H.set b (.map (es.eraseIdx i)))
  | some none=>some (.bJ [],H)
  | none=>none else none
 | _=>none
def NI (kt:KT)(H:af)(m k:T):Option (T×af):=match m with
 | .map b=>EE kt H b H[b]? k
 | _=>none
theorem EF (R:av)(H:af)(kt:KT)(m k:X):ar R H (.del kt m k)=NI kt H (m.ev R) (k.ev R):=by
 unfold NI EE
 simp only[ar]
 cases m.ev R with
 | map b =>
  simp only
  cases h1:(k.ev R).jh kt
  ·simp only[Bool.false_eq_true,if_false];split<;>rfl
  ·simp only[if_true]
   cases H[b]? with
   | none=>rfl
   | some x=>cases x<;>rfl
 | _=>rfl
theorem xo (kt:KT)(H:af)(b:Nat)(k:T):NI kt H (.map b) k=EE kt H b H[b]? k:=rfl
def qc (es:List (α×T))(s:α):List (α×T):=match es.findIdx? (fun e=>decide (s=e.1))with
 | some i=>es.eraseIdx i
 | none=>es
theorem EG (ho:ru kt ek)(H:af)(b:Nat)(es:List (α×T))(s:α){v:T}(hv:ai es s=some v):EE kt H b (some (.map (bh ek es))) (ek s)=some (.bJ [],H.set b (.map (bh ek (qc es s)))):=by
 rw[tO]at hv
 simp only[EE,ho.has,u6 ho,if_true,qc]
 cases h:List.findIdx? (fun e=>decide (s=e.1)) es with
 | none=>rw[h]at hv;simp at hv
 | some i=>simp only[bh,Option.some.injEq,Prod.mk.injEq,true_and];congr 2;rw[xn]
def NJ (H:af)(b:Nat):Option B→Option (T×af)
 | some (.map es)=>some (.ptr H.length 0,H.set b (.cT es (List.range es.length) H.length none)++[.uE b])
 | some (.cT es _ _ _)=>some (.ptr H.length 0,H.set b (.cT es (List.range es.length) H.length none)++[.uE b])
 | _=>none
def NK (H:af):T→Option (T×af)
 | .map b=>NJ H b H[b]?
 | _=>none
theorem EH (R:av)(H:af)(x:X):ar R H (.MI x)=NK H (x.ev R):=by
 simp only[ar]
 cases x.ev R with
 | map b =>
  simp only[gE,NK]
  cases H[b]? with
  | none=>rfl
  | some y=>cases y<;>rfl
 | _=>rfl
theorem xp (H:af)(b:Nat):NK H (.map b)=NJ H b H[b]?:=rfl
theorem EI (H:af)(b:Nat)(es:List (T×T)):NJ H b (some (.map es))=some (.ptr H.length 0,H.set b (.cT es (List.range es.length) H.length none)++[.uE b]):=rfl
theorem EJ (R:av)(H:af)(x:X):ar R H (.qh x)=none:=rfl
def JQ (H:af)(bi:Nat):Option B→Option (T×af)
 | some (.cT es _ QY (some c))=>if QY=bi then(es[c]?).map fun e=>(.bJ [e.1,e.2],H)else none
 | _=>none
def JR (H:af)(bi:Nat):Option B→Option (T×af)
 | some (.uE b)=>JQ H bi H[b]?
 | _=>none
def NL (H:af):T→Option (T×af)
 | .ptr bi 0=>JR H bi H[bi]?
 | _=>none
theorem EK (R:av)(H:af)(x:X):ar R H (.MJ x)=NL H (x.ev R):=by
 simp only[ar]
 cases x.ev R with
 | ptr bi o =>
  cases o with
  | zero =>
   simp only[NL]
   cases H[bi]? with
   | none=>rfl
   | some y=>cases y with
    | uE b =>
     simp only[JR]
     cases H[b]? with
     | none=>rfl
     | some z=>cases z with
      | cT es ix QY cur=>cases cur<;>rfl
      | _=>rfl
    | _=>rfl
  | succ _=>rfl
 | _=>rfl
theorem xq (H:af)(bi:Nat):NL H (.ptr bi 0)=JR H bi H[bi]?:=rfl
theorem EL (H:af)(bi b:Nat):JR H bi (some (.uE b))=JQ H bi H[b]?:=rfl
theorem EM (H:af)(bi:Nat)(es:List (T×T))(ix:List Nat)(c:Nat):JQ H bi (some (.cT es ix bi (some c)))=(es[c]?).map fun e=>(.bJ [e.1,e.2],H):=by simp only[JQ,if_true]
def JS (H:af)(b off len n n':Nat)(z:List T):Option B→Option (T×af)
 | some (.cells cs)=>if n'=n∧z.length=n∧off+len*n≤cs.length then some (b0,H.set b (.cells (cs.take off++(List.replicate len z).flatten++cs.drop (off+len*n))))else none
 | _=>none
def NM (H:af)(n:Nat)(z:List T):T→Option (T×af)
 | .ax b off len n'=>JS H b off len n n' z H[b]?
 | _=>none
theorem EN (R:av)(H:af)(n:Nat)(z:List T)(x:X):ar R H (.Qf n z x)=NM H n z (x.ev R):=by
 simp only[ar]
 cases x.ev R with
 | ax b off len n' =>
  simp only[NM]
  cases H[b]? with
  | none=>rfl
  | some y=>cases y<;>rfl
 | _=>rfl
theorem nW (H:af)(n:Nat)(z:List T)(b off len n':Nat):NM H n z (.ax b off len n')=JS H b off len n n' z H[b]?:=rfl
theorem xr (kt:KT)(H:af)(b:Nat)(k v:T):NH kt H (.map b) k v=xm kt H b H[b]? k v:=rfl
theorem u7 (ho:ru kt ek)(H:af)(b:Nat)(es:List (α×T))(s:α)(v:T):xm kt H b (some (.map (bh ek es))) (ek s) v=some (b0,H.set b (.map (bh ek (cu es s v)))):=by
 simp only[xm,ho.has,u6 ho,if_true,cu]
 cases h:List.findIdx? (fun e=>decide (s=e.1)) es with
 | none=>simp[bh]
 | some i=>simp[bh]
end
theorem R9:ru (.sc .str) T.str:=⟨fun _=>rfl,fun a b=>by simp only[gW,ji,gr]⟩
def kU (n:Nat):T:=.int .u64 n
theorem NN:ru (.sc .int) kU:=⟨fun _=>rfl,fun a b=>by simp only[kU,gW,ji,if_true,RW]⟩
theorem fC (z:T)(ok:Bool)(H:af)(es:List (ByteArray×T))(s:ByteArray):yU (.sc .str) z ok H (some (.map (bh T.str es))) (.str s)=some (jo (ai es s) z ok,H):=lG R9 z ok H es s
theorem lH (z:T)(ok:Bool)(H:af)(es:List (Nat×T))(s:Nat):yU (.sc .int) z ok H (some (.map (bh kU es))) (.int .u64 s)=some (jo (ai es s) z ok,H):=lG NN z ok H es s
theorem ng (H:af)(b:Nat)(es:List (ByteArray×T))(s:ByteArray)(v:T):xm (.sc .str) H b (some (.map (bh T.str es))) (.str s) v=some (b0,H.set b (.map (bh T.str (cu es s v)))):=u7 R9 H b es s v
theorem rv (H:af)(b:Nat)(es:List (Nat×T))(s:Nat)(v:T):xm (.sc .int) H b (some (.map (bh kU es))) (.int .u64 s) v=some (b0,H.set b (.map (bh kU (cu es s v)))):=u7 NN H b es s v
theorem xu (v z:T):jo (some v) z false=v:=rfl
theorem xv (z:T):jo none z false=z:=rfl
theorem tP (v z:T):jo (some v) z true=.bJ [v,.bool true]:=rfl
theorem tQ (z:T):jo none z true=.bJ [z,.bool false]:=rfl
theorem tR (l:List T):(T.agg l).cells?=some l:=rfl
theorem tT (k:IntKind)(n:Int):(T.int k n).cells?=some [.int k n]:=rfl
theorem tU (s:ByteArray):(T.str s).cells?=some [.str s]:=rfl
theorem ry (s:Bool):(T.bool s).cells?=some [.bool s]:=rfl
theorem xw (k:SK)(l:List (List T)):(T.sl k l).cells?=some [.sl k l]:=rfl
theorem tV (a b c d:Nat):(T.ax a b c d).cells?=some [.ax a b c d]:=rfl
theorem ua (b:Nat):(T.map b).cells?=some [.map b]:=rfl
theorem ub (a b:Nat):(T.ptr a b).cells?=some [.ptr a b]:=rfl
theorem rz:(T.gA).cells?=some [.gA]:=rfl
theorem rA:(T.bR).cells?=some [.bR]:=rfl
theorem Sa (v:T):Bl [v]=v:=rfl
theorem Sb (v w:T):Bl [v,w]=.bJ [v,w]:=rfl
theorem Sc (v w x:T):Bl [v,w,x]=.bJ [v,w,x]:=rfl
theorem EO (k:IntKind)(n:Int):(T.int k n).erase=.int k n:=rfl
theorem EP (s:ByteArray):(T.str s).erase=.str s:=rfl
theorem Au (s:Bool):(T.bool s).erase=.bool s:=rfl
theorem L1 (k:SK)(l:List (List T)):(T.sl k l).erase=.sl .arg l:=rfl
theorem ER (a b:Nat):(T.ptr a b).erase=.ptr a b:=rfl
theorem u9 (b:Nat):(T.map b).erase=.map b:=rfl
theorem Av:(T.gA).erase=.gA:=rfl
theorem Aw:(T.bR).erase=.bR:=rfl
theorem L3 (H:af)(n:Nat)(k:SK)(es:List (List T)):bA H n (.sl k es)=if es.all (·.length==n)then some es else none:=rfl
theorem ES (R:av):bO R Option.none=true:=rfl
theorem ET (p:Prop):(True→p)=p:=by simp
theorem L4 (p:Prop):(p→True)=True:=by simp
theorem L5 (p:Prop):(true=true→p)=p:=by simp
theorem L6 (p:Prop):(false=true→p)=True:=by simp
theorem EU (b:Bool):Lr .not (.bool b)=some (.bool !b):=rfl
theorem EV (k:IntKind)(a b:Int):cI .add (.int k a) (.int k b)=some (.int k (k.wrap (a+b))):=by simp[cI]
theorem EW (k:IntKind)(a b:Int):cI .sub (.int k a) (.int k b)=some (.int k (k.wrap (a-b))):=by simp[cI]
theorem EX (k:IntKind)(a b:Int):cI .mul (.int k a) (.int k b)=some (.int k (k.wrap (a*b))):=by simp[cI]
theorem EY (k:IntKind)(a b:Int):cI .quo (.int k a) (.int k b)=if b=0 then none else some (.int k (k.wrap (a.tdiv b))):=by simp[cI]
theorem EZ (k:IntKind)(a b:Int):cI .rem (.int k a) (.int k b)=if b=0 then none else some (.int k (a.tmod b)):=by simp[cI]
theorem E0 (k k':IntKind)(a b:Int):cI .shl (.int k a) (.int k' b)=if b<0 then none else some (.int k (k.wrap (a*2^(min b.toNat k.bits)))):=by simp[cI]
theorem E1 (k k':IntKind)(a b:Int):cI .shr (.int k a) (.int k' b)=if b<0 then none else some (.int k (a.fdiv (2^(min b.toNat k.bits)))):=by simp[cI]
theorem E2 (k:IntKind)(a b:Int):cI .and (.int k a) (.int k b)=some (.int k (k.wrap (BitVec.ofInt k.bits a &&& BitVec.ofInt k.bits b).toNat)):=by simp[cI]
theorem L7 (k:IntKind)(a b:Int):cI .or (.int k a) (.int k b)=some (.int k (k.wrap (BitVec.ofInt k.bits a ||| BitVec.ofInt k.bits b).toNat)):=by simp[cI]
theorem E3 (k:IntKind)(a b:Int):cI .xor (.int k a) (.int k b)=some (.int k (k.wrap (BitVec.ofInt k.bits a ^^^ BitVec.ofInt k.bits b).toNat)):=by simp[cI]
theorem E4 (k:IntKind)(a b:Int):cI .eql (.int k a) (.int k b)=some (.bool (a==b)):=by simp[cI]
theorem E5 (k:IntKind)(a b:Int):cI .neq (.int k a) (.int k b)=some (.bool (a != b)):=by simp[cI]
theorem E6 (k:IntKind)(a b:Int):cI .lss (.int k a) (.int k b)=some (.bool (a<b)):=by simp[cI]
theorem E7 (k:IntKind)(a b:Int):cI .leq (.int k a) (.int k b)=some (.bool (a≤b)):=by simp[cI]
theorem E8 (k:IntKind)(a b:Int):cI .gtr (.int k a) (.int k b)=some (.bool (b<a)):=by simp[cI]
theorem E9 (k:IntKind)(a b:Int):cI .geq (.int k a) (.int k b)=some (.bool (b≤a)):=by simp[cI]
theorem Fa (a b:ByteArray):cI .eql (.str a) (.str b)=some (.bool (decide (a=b))):=by simp[cI,gr]
theorem Fb (a b:ByteArray):cI .neq (.str a) (.str b)=some (.bool (!decide (a=b))):=by simp[cI,gr]
theorem Fc (a b:ByteArray):cI .lss (.str a) (.str b)=some (.bool (strLt a b)):=by rfl
theorem Fe (a b:ByteArray):cI .leq (.str a) (.str b)=some (.bool (!strLt b a)):=by have:=not_le b a;simp only[cI,Option.some.injEq,T.bool.injEq];rw[←this];simp
theorem Ff (a b:ByteArray):cI .gtr (.str a) (.str b)=some (.bool (strLt b a)):=by have:=not_le b a;simp only[cI,Option.some.injEq,T.bool.injEq];exact this
theorem Fg (a b:ByteArray):cI .geq (.str a) (.str b)=some (.bool (!strLt a b)):=by rfl
theorem Fh (a b:ByteArray):cI .add (.str a) (.str b)=if a.size+b.size≤9223372036854775807 then some (.str (a++b))else none:=rfl
theorem Fi (a b:Nat):decide ((a:Int)<(no_index (OfNat.ofNat b)))=decide (a<OfNat.ofNat b):=Wd a b
theorem Fj (a b:Nat):decide ((no_index (OfNat.ofNat b):Int)<(a:Int))=decide (OfNat.ofNat b<a):=Wd b a
theorem Fk (a b:Nat):decide ((a:Int)≤(no_index (OfNat.ofNat b)))=decide (a≤OfNat.ofNat b):=We a b
theorem Fl (a b:Nat):decide ((no_index (OfNat.ofNat b):Int)≤(a:Int))=decide (OfNat.ofNat b≤a):=We b a
theorem Fm (a b:Nat):((a:Int)==(no_index (OfNat.ofNat b)))=decide (a=OfNat.ofNat b):=RW a b
theorem Fo (a b:Nat):((a:Int) != (no_index (OfNat.ofNat b)))=!decide (a=OfNat.ofNat b):=XH a b
set_option linter.defProp false in
theorem S1:type_of% (And.intro (@RQ)<|And.intro (@ar.eq_37)<|And.intro (@ar.eq_38)<|And.intro (@ar.eq_43)<|And.intro (@ar.eq_44)<|And.intro (@ar.eq_45)<|And.intro (@RX)<|And.intro (@RY)<|And.intro (@RZ)<|And.intro (@fH.eq_1)<|And.intro (@fH.eq_2)<|And.intro (@ES)<|And.intro (@ET)<|And.intro (@L4)<|And.intro (@L5)<|And.intro (@L6)<|And.intro (@Eg)<|And.intro (@List.nil_append.{0})<|And.intro (@List.append_nil.{0})<|And.intro (@List.cons_append.{0})<|And.intro (@EO)<|And.intro (@EP)<|And.intro (@Au)<|And.intro (@L1)<|And.intro (@ER)<|And.intro (@u9)<|And.intro (@Av)<|And.intro (@Aw)<|And.intro (@L3)<|And.intro (@fu.eq_1)<|And.intro (@fu.eq_2)<|And.intro (@mG.eq_1)<|And.intro (@mG.eq_2)<|And.intro (@jy.eq_1)<|And.intro (@jy.eq_2)<|And.intro (@jz.eq_1)<|And.intro (@jz.eq_2)<|And.intro (@List.replicate_zero.{0})<|And.intro (@List.replicate_succ.{0})<|And.intro (@List.set_cons_zero.{0})<|And.intro (@List.set_cons_succ.{0})<|And.intro (@List.all_cons.{0})<|And.intro (@List.all_nil.{0})<|And.intro (@Bool.and_true)<|And.intro (@Bool.true_and)<|And.intro (@eY)<|And.intro (@u5)<|And.intro (@nf)<|And.intro (@Ar)<|And.intro (@iq)<|And.intro (@As)<|And.intro (@Fi)<|And.intro (@Fj)<|And.intro (@Fk)<|And.intro (@Fl)<|And.intro (@Fm)<|And.intro (@Fo)<|And.intro (@LJ)<|And.intro (@b_b)<|And.intro (@b_g)<|And.intro (@b_c)<|And.intro (@RP)<|And.intro (@Eh)<|And.intro (@LK)<|And.intro (@LL)<|And.intro (@Ei)<|And.intro (@Ej)<|And.intro (@Ek)<|And.intro (@LM)<|And.intro (@Aj)<|And.intro (@fK)<|And.intro (@El)<|And.intro (@qp)<|And.intro (@Em)<|And.intro (@LN)<|And.intro (@En)<|And.intro (@Ak)<|And.intro (@cR)<|And.intro (@Eo)<|And.intro (@Ep)<|And.intro (@dR)<|And.intro (@Er)<|And.intro (@Es)<|And.intro (@LO)<|And.intro (@LP)<|And.intro (@LQ)<|And.intro (@Bool.false_eq_true)<|And.intro (@Et)<|And.intro (@Eu)<|And.intro (@LR)<|And.intro (@LV)<|And.intro (@LS)<|And.intro (@LU)<|And.intro (@xj)<|And.intro (@tN)<|And.intro (@List.length_cons.{0})<|And.intro (@List.length_nil.{0})<|And.intro (@List.drop_succ_cons.{0})<|And.intro (@List.drop_zero.{0})<|And.intro (@List.take_succ_cons.{0})<|And.intro (@List.take_zero.{0})<|And.intro (@tR)<|And.intro (@tT)<|And.intro (@tU)<|And.intro (@ry)<|And.intro (@xw)<|And.intro (@tV)<|And.intro (@ua)<|And.intro (@ub)<|And.intro (@rz)<|And.intro (@rA)<|And.intro (@wz.eq_1)<|And.intro (@wz.eq_2)<|And.intro (@Nat.zero_add)<|And.intro (@RM)<|And.intro (@RN)<|And.intro (@u2.eq_1)<|And.intro (@u2.eq_2)<|And.intro (@Ec)<|And.intro (@Ed)<|And.intro (@Ee)<|And.intro (@Ai)<|And.intro (@Am)<|And.intro (@Ao)<|And.intro (@Ap)<|And.intro (@Aq)<|And.intro (@true_and)<|And.intro (@and_true)<|And.intro (@Option.map_some.{0,0})<|And.intro (@Option.bind_some.{0,0})<|And.intro (@EU)<|And.intro (@iH.eq_1)<|And.intro (@iH.eq_2)<|And.intro (@iH.eq_3)<|And.intro (@iH.eq_4)<|And.intro (@iH.eq_5)<|And.intro (@aa)<|And.intro (@RT)<|And.intro (@RU)<|And.intro (@yT.eq_1)<|And.intro (@yT.eq_2)<|And.intro (@p0.eq_1)<|And.intro (@sF.eq_1)<|And.intro (@sF.eq_2)<|And.intro (@yp.eq_1)<|And.intro (@yp.eq_2)<|And.intro (@Sa)<|And.intro (@Sb)<|And.intro (@Sc)<|And.intro (@Wd)<|And.intro (@We)<|And.intro (@RW)<|And.intro (@XH)<|And.intro (@List.map_cons.{0,0})<|And.intro (@List.map_nil.{0,0})<|And.intro (@decide_true)<|And.intro (@decide_false)<|And.intro (@gr)<|And.intro (@Bool.not_true)<|And.intro (@Bool.not_false)<|And.intro (@beq_self_eq_true.{0})<|And.intro (@bne_self_eq_false.{0})<|And.intro (@List.getElem?_cons_zero.{0})<|And.intro (@List.getElem?_cons_succ.{0})<|And.intro (@List.getElem?_nil.{0})<|And.intro (@List.length_map.{0,0})<|And.intro (@Al)<|And.intro (@T.bool.injEq)<|And.intro (@T.int.injEq)<|And.intro (@T.str.injEq)<|And.intro (@T.bJ.injEq)<|And.intro (@ar.eq_1)<|And.intro (@ar.eq_2)<|And.intro (@ar.eq_3)<|And.intro (@ar.eq_4)<|And.intro (@ar.eq_5)<|And.intro (@ar.eq_6)<|And.intro (@ar.eq_7)<|And.intro (@ar.eq_8)<|And.intro (@ar.eq_9)<|And.intro (@ar.eq_10)<|And.intro (@ar.eq_11)<|And.intro (@ar.eq_12)<|And.intro (@ar.eq_13)<|And.intro (@ar.eq_14)<|And.intro (@ar.eq_15)<|And.intro (@ar.eq_16)<|And.intro (@ar.eq_17)<|And.intro (@ar.eq_18)<|And.intro (@ar.eq_19)<|And.intro (@ar.eq_20)<|And.intro (@ar.eq_21)<|And.intro (@ar.eq_22)<|And.intro (@ar.eq_23)<|And.intro (@ar.eq_24)<|And.intro (@ar.eq_25)<|And.intro (@ar.eq_26)<|And.intro (@EF)<|And.intro (@xo)<|And.intro (@EH)<|And.intro (@xp)<|And.intro (@EI)<|And.intro (@EJ)<|And.intro (@EK)<|And.intro (@xq)<|And.intro (@EL)<|And.intro (@EM)<|And.intro (@EN)<|And.intro (@nW)<|And.intro (@ar.eq_30)<|And.intro (@ar.eq_31)<|And.intro (@ar.eq_32)<|And.intro (@ar.eq_33)<|And.intro (@ar.eq_34)<|And.intro (@ar.eq_35)<|And.intro (@ar.eq_36)<|And.intro (@EC)<|And.intro (@ED)<|And.intro (@xl)<|And.intro (@fC)<|And.intro (@lH)<|And.intro (@xr)<|And.intro (@ng)<|And.intro (@rv)<|And.intro (@xu)<|And.intro (@xv)<|And.intro (@tP)<|And.intro (@tQ)<|And.intro (@EV)<|And.intro (@EW)<|And.intro (@EX)<|And.intro (@EY)<|And.intro (@EZ)<|And.intro (@E0)<|And.intro (@E1)<|And.intro (@E2)<|And.intro (@L7)<|And.intro (@E3)<|And.intro (@E4)<|And.intro (@E5)<|And.intro (@E6)<|And.intro (@E7)<|And.intro (@E8)<|And.intro (@E9)<|And.intro (@Fa)<|And.intro (@Fb)<|And.intro (@Fc)<|And.intro (@Fe)<|And.intro (@Ff)<|And.intro (@Fg)<|(@Fh)):=And.intro (@RQ)<|And.intro (@ar.eq_37)<|And.intro (@ar.eq_38)<|And.intro (@ar.eq_43)<|And.intro (@ar.eq_44)<|And.intro (@ar.eq_45)<|And.intro (@RX)<|And.intro (@RY)<|And.intro (@RZ)<|And.intro (@fH.eq_1)<|And.intro (@fH.eq_2)<|And.intro (@ES)<|And.intro (@ET)<|And.intro (@L4)<|And.intro (@L5)<|And.intro (@L6)<|And.intro (@Eg)<|And.intro (@List.nil_append.{0})<|And.intro (@List.append_nil.{0})<|And.intro (@List.cons_append.{0})<|And.intro (@EO)<|And.intro (@EP)<|And.intro (@Au)<|And.intro (@L1)<|And.intro (@ER)<|And.intro (@u9)<|And.intro (@Av)<|And.intro (@Aw)<|And.intro (@L3)<|And.intro (@fu.eq_1)<|And.intro (@fu.eq_2)<|And.intro (@mG.eq_1)<|And.intro (@mG.eq_2)<|And.intro (@jy.eq_1)<|And.intro (@jy.eq_2)<|And.intro (@jz.eq_1)<|And.intro (@jz.eq_2)<|And.intro (@List.replicate_zero.{0})<|And.intro (@List.replicate_succ.{0})<|And.intro (@List.set_cons_zero.{0})<|And.intro (@List.set_cons_succ.{0})<|And.intro (@List.all_cons.{0})<|And.intro (@List.all_nil.{0})<|And.intro (@Bool.and_true)<|And.intro (@Bool.true_and)<|And.intro (@eY)<|And.intro (@u5)<|And.intro (@nf)<|And.intro (@Ar)<|And.intro (@iq)<|And.intro (@As)<|And.intro (@Fi)<|And.intro (@Fj)<|And.intro (@Fk)<|And.intro (@Fl)<|And.intro (@Fm)<|And.intro (@Fo)<|And.intro (@LJ)<|And.intro (@b_b)<|And.intro (@b_g)<|And.intro (@b_c)<|And.intro (@RP)<|And.intro (@Eh)<|And.intro (@LK)<|And.intro (@LL)<|And.intro (@Ei)<|And.intro (@Ej)<|And.intro (@Ek)<|And.intro (@LM)<|And.intro (@Aj)<|And.intro (@fK)<|And.intro (@El)<|And.intro (@qp)<|And.intro (@Em)<|And.intro (@LN)<|And.intro (@En)<|And.intro (@Ak)<|And.intro (@cR)<|And.intro (@Eo)<|And.intro (@Ep)<|And.intro (@dR)<|And.intro (@Er)<|And.intro (@Es)<|And.intro (@LO)<|And.intro (@LP)<|And.intro (@LQ)<|And.intro (@Bool.false_eq_true)<|And.intro (@Et)<|And.intro (@Eu)<|And.intro (@LR)<|And.intro (@LV)<|And.intro (@LS)<|And.intro (@LU)<|And.intro (@xj)<|And.intro (@tN)<|And.intro (@List.length_cons.{0})<|And.intro (@List.length_nil.{0})<|And.intro (@List.drop_succ_cons.{0})<|And.intro (@List.drop_zero.{0})<|And.intro (@List.take_succ_cons.{0})<|And.intro (@List.take_zero.{0})<|And.intro (@tR)<|And.intro (@tT)<|And.intro (@tU)<|And.intro (@ry)<|And.intro (@xw)<|And.intro (@tV)<|And.intro (@ua)<|And.intro (@ub)<|And.intro (@rz)<|And.intro (@rA)<|And.intro (@wz.eq_1)<|And.intro (@wz.eq_2)<|And.intro (@Nat.zero_add)<|And.intro (@RM)<|And.intro (@RN)<|And.intro (@u2.eq_1)<|And.intro (@u2.eq_2)<|And.intro (@Ec)<|And.intro (@Ed)<|And.intro (@Ee)<|And.intro (@Ai)<|And.intro (@Am)<|And.intro (@Ao)<|And.intro (@Ap)<|And.intro (@Aq)<|And.intro (@true_and)<|And.intro (@and_true)<|And.intro (@Option.map_some.{0,0})<|And.intro (@Option.bind_some.{0,0})<|And.intro (@EU)<|And.intro (@iH.eq_1)<|And.intro (@iH.eq_2)<|And.intro (@iH.eq_3)<|And.intro (@iH.eq_4)<|And.intro (@iH.eq_5)<|And.intro (@aa)<|And.intro (@RT)<|And.intro (@RU)<|And.intro (@yT.eq_1)<|And.intro (@yT.eq_2)<|And.intro (@p0.eq_1)<|And.intro (@sF.eq_1)<|And.intro (@sF.eq_2)<|And.intro (@yp.eq_1)<|And.intro (@yp.eq_2)<|And.intro (@Sa)<|And.intro (@Sb)<|And.intro (@Sc)<|And.intro (@Wd)<|And.intro (@We)<|And.intro (@RW)<|And.intro (@XH)<|And.intro (@List.map_cons.{0,0})<|And.intro (@List.map_nil.{0,0})<|And.intro (@decide_true)<|And.intro (@decide_false)<|And.intro (@gr)<|And.intro (@Bool.not_true)<|And.intro (@Bool.not_false)<|And.intro (@beq_self_eq_true.{0})<|And.intro (@bne_self_eq_false.{0})<|And.intro (@List.getElem?_cons_zero.{0})<|And.intro (@List.getElem?_cons_succ.{0})<|And.intro (@List.getElem?_nil.{0})<|And.intro (@List.length_map.{0,0})<|And.intro (@Al)<|And.intro (@T.bool.injEq)<|And.intro (@T.int.injEq)<|And.intro (@T.str.injEq)<|And.intro (@T.bJ.injEq)<|And.intro (@ar.eq_1)<|And.intro (@ar.eq_2)<|And.intro (@ar.eq_3)<|And.intro (@ar.eq_4)<|And.intro (@ar.eq_5)<|And.intro (@ar.eq_6)<|And.intro (@ar.eq_7)<|And.intro (@ar.eq_8)<|And.intro (@ar.eq_9)<|And.intro (@ar.eq_10)<|And.intro (@ar.eq_11)<|And.intro (@ar.eq_12)<|And.intro (@ar.eq_13)<|And.intro (@ar.eq_14)<|And.intro (@ar.eq_15)<|And.intro (@ar.eq_16)<|And.intro (@ar.eq_17)<|And.intro (@ar.eq_18)<|And.intro (@ar.eq_19)<|And.intro (@ar.eq_20)<|And.intro (@ar.eq_21)<|And.intro (@ar.eq_22)<|And.intro (@ar.eq_23)<|And.intro (@ar.eq_24)<|And.intro (@ar.eq_25)<|And.intro (@ar.eq_26)<|And.intro (@EF)<|And.intro (@xo)<|And.intro (@EH)<|And.intro (@xp)<|And.intro (@EI)<|And.intro (@EJ)<|And.intro (@EK)<|And.intro (@xq)<|And.intro (@EL)<|And.intro (@EM)<|And.intro (@EN)<|And.intro (@nW)<|And.intro (@ar.eq_30)<|And.intro (@ar.eq_31)<|And.intro (@ar.eq_32)<|And.intro (@ar.eq_33)<|And.intro (@ar.eq_34)<|And.intro (@ar.eq_35)<|And.intro (@ar.eq_36)<|And.intro (@EC)<|And.intro (@ED)<|And.intro (@xl)<|And.intro (@fC)<|And.intro (@lH)<|And.intro (@xr)<|And.intro (@ng)<|And.intro (@rv)<|And.intro (@xu)<|And.intro (@xv)<|And.intro (@tP)<|And.intro (@tQ)<|And.intro (@EV)<|And.intro (@EW)<|And.intro (@EX)<|And.intro (@EY)<|And.intro (@EZ)<|And.intro (@E0)<|And.intro (@E1)<|And.intro (@E2)<|And.intro (@L7)<|And.intro (@E3)<|And.intro (@E4)<|And.intro (@E5)<|And.intro (@E6)<|And.intro (@E7)<|And.intro (@E8)<|And.intro (@E9)<|And.intro (@Fa)<|And.intro (@Fb)<|And.intro (@Fc)<|And.intro (@Fe)<|And.intro (@Ff)<|And.intro (@Fg)<|(@Fh)
theorem S2:type_of% (And.intro (@not_false_eq_true)<|And.intro (@ne_eq.{1})<|And.intro (@Nat.lt_succ_self)<|And.intro (@aO)<|And.intro (@aQ)<|And.intro (@bX)<|And.intro (@bj)<|And.intro (@u4)<|And.intro (@LX)<|And.intro (@LY)<|And.intro (@LZ)<|And.intro (@L0)<|And.intro (@List.nil_append.{0})<|And.intro (@List.append_nil.{0})<|And.intro (@List.cons_append.{0}) (@List.drop_nil.{0})):=And.intro (@not_false_eq_true)<|And.intro (@ne_eq.{1})<|And.intro (@Nat.lt_succ_self)<|And.intro (@aO)<|And.intro (@aQ)<|And.intro (@bX)<|And.intro (@bj)<|And.intro (@u4)<|And.intro (@LX)<|And.intro (@LY)<|And.intro (@LZ)<|And.intro (@L0)<|And.intro (@List.nil_append.{0})<|And.intro (@List.append_nil.{0})<|And.intro (@List.cons_append.{0}) (@List.drop_nil.{0})
theorem L8 (H:af)(x:B):(H++[x]).length=H.length+1:=by simp
theorem Sd {b n:Nat}(h:b<n):(b<n+1)=True:=by simp;omega
theorem S3:type_of% (And.intro (@L8)<|And.intro (@Sd) (@Nat.add_assoc)):=And.intro (@L8)<|And.intro (@Sd) (@Nat.add_assoc)
section
variable {α:Type} {enc:α→List T} {n:Nat}
def aE (enc:α→List T)(xs:List α):List T:=xs.flatMap enc
theorem da (hn:∀x,(enc x).length=n):∀xs:List α,(aE enc xs).length=xs.length*n
 | []=>by simp[aE]
 | x :: xs=>by
  have:=da hn xs
  simp only[aE,List.flatMap_cons,List.length_append,hn,List.length_cons]at this ⊢
  rw[this,Nat.add_mul];omega
theorem lI (hn:∀x,(enc x).length=n):∀(xs:List α) (i:Nat),(aE enc xs).drop (i*n)=aE enc (xs.drop i)
 | xs,0=>by simp
 | [],i+1=>by simp[aE]
 | x :: xs,i+1=>by
  have:=lI hn xs i
  simp only[aE,List.flatMap_cons,List.drop_succ_cons]at this ⊢
  rw[show(i+1)*n=(enc x).length+i*n by rw[hn,Nat.add_mul];omega,List.drop_append,List.drop_eq_nil_of_le (by omega)]
  simp[this]
theorem jG (hn:∀x,(enc x).length=n):∀(xs:List α) (i:Nat),(aE enc xs).take (i*n)=aE enc (xs.take i)
 | xs,0=>by simp[aE]
 | [],i+1=>by simp[aE]
 | x :: xs,i+1=>by
  have:=jG hn xs i
  simp only[aE,List.flatMap_cons,List.take_succ_cons]at this ⊢
  rw[show(i+1)*n=(enc x).length+i*n by rw[hn,Nat.add_mul];omega,List.take_append,List.take_of_length_le (by omega)]
  simp[this]
theorem gb (hn:∀x,(enc x).length=n){xs:List α}{i:Nat}{x:α}(hx:xs[i]?=some x)(off m:Nat)(h:off+m≤n):ph m (i*n+off) (some (.cells (aE enc xs)))=some (((enc x).drop off).take m):=by
 have hi:=(List.getElem?_eq_some_iff.1 hx).1
 have h1:i*n+n≤xs.length*n:=by rw[←Nat.succ_mul];exact Nat.mul_le_mul_right n hi
 have e:(aE enc xs).drop (i*n)=enc x++aE enc (xs.drop (i+1)):=by
  rw[lI hn,List.drop_eq_getElem_cons hi]
  have:xs[i]=x:=(List.getElem?_eq_some_iff.1 hx).2
  rw[this];rfl
 rw[nf,if_pos (by rw[da hn];omega),←List.drop_drop,e,List.drop_append,List.take_append,hn]
 rw[show m-((enc x).drop off).length=0 by rw[List.length_drop,hn];omega]
 simp
theorem ke (hn:∀x,(enc x).length=n){xs:List α}{i:Nat}{x y:α}(hx:xs[i]?=some x)(H:af)(b:Nat)(vs:List T)(off:Nat)(h:off+vs.length≤n)(hy:enc y=(enc x).take off++vs++(enc x).drop (off+vs.length)) :
  nV H b vs (i*n+off) (some (.cells (aE enc xs)))=some (H.set b (.cells (aE enc (xs.set i y)))):=by
 have hi:=(List.getElem?_eq_some_iff.1 hx).1
 have hxi:xs[i]=x:=(List.getElem?_eq_some_iff.1 hx).2
 have h1:i*n+n≤xs.length*n:=by rw[←Nat.succ_mul];exact Nat.mul_le_mul_right n hi
 rw[iq,if_pos (by rw[da hn];omega)]
 have e:(aE enc xs).drop (i*n)=enc x++aE enc (xs.drop (i+1)):=by
  rw[lI hn,List.drop_eq_getElem_cons hi,hxi];rfl
 have t:(aE enc xs).take (i*n+off)=aE enc (xs.take i)++(enc x).take off:=by
  rw[List.take_add,jG hn,e,List.take_append,hn,show off-n=0 by omega];simp
 have d:(aE enc xs).drop (i*n+off+vs.length)=(enc x).drop (off+vs.length)++aE enc (xs.drop (i+1)):=by
  rw[Nat.add_assoc,←List.drop_drop,e,List.drop_append,hn,show off+vs.length-n=0 by omega];simp
 rw[t,d]
 have:xs.set i y=xs.take i++y :: xs.drop (i+1):=by rw[List.set_eq_take_append_cons_drop,if_pos hi]
 rw[this]
 simp only[aE,List.flatMap_append,List.flatMap_cons,hy,List.append_assoc]
theorem JT (k:Nat)(z:α):(List.replicate k (enc z)).flatten=aE enc (List.replicate k z):=by
 induction k with
 | zero=>rfl
 | succ k ih=>simp only[List.replicate_succ,List.flatten_cons,ih,aE,List.flatMap_cons]
end
theorem fL (n i b off len:Nat):dw n i (.ax b off len n)=if i<len then if n=0 then none else some (.ptr b (off+i*n))else none:=by
 simp only[dw,true_and,ne_eq]
 by_cases h:i<len<;>by_cases h':n=0<;>simp[h,h']
def eU (n:Nat):List T:=[.int .u64 n]
def mO (n0:Nat)(H:af)(k:SK):Prop:=k=.nil∨k=.full∨∃t e,k=.own t e∧n0≤t∧H[t]?=some (.tok e)
structure xy (n0:Nat)(H:af)(k:SK)(H':af):Prop where
 len:H.length≤H'.length
 get:∀b x,H[b]?=some x→(∀e,k≠.own b e)→H'[b]?=some x
 ext:∀H0:af,H0.length≤n0→Ext H0 H→Ext H0 H'
theorem xy.cells {n0:Nat}{H H':af}{k:SK}(h:xy n0 H k H')(ha:mO n0 H k){b:Nat}{x:B}(hx:H[b]?=some x)(ht:∀e,x≠.tok e):H'[b]?=some x:=h.get b x hx fun e he=>by
 rcases ha with h|h|⟨t,e',h,_,h'⟩
 ·rw[he]at h;cases h
 ·rw[he]at h;cases h
 ·rw[he]at h;cases h;rw[hx]at h';cases h';exact ht _ rfl
theorem lJ {n0:Nat}{H:af}{k:SK}{bytes:Nat}(es new:List (List T))(hk:mO n0 H k)(jC:n0≤H.length)(iJ:new≠[])(hr:cU (es.length+new.length) bytes=true) :
  ∃k' H',gX H bytes k es new=some (.sl k' (es++new.map (·.map T.erase)),H')∧mO n0 H' k'∧xy n0 H k H':=by
 unfold gX
 cases new with
 | nil=>exact absurd rfl iJ
 | cons c new =>
  simp only[hr,if_true]
  rcases hk with rfl|rfl|⟨t,e,rfl,ht,hg⟩
  ·exact⟨_,_,rfl,.inr (.inr ⟨_,_,rfl,jC,aO rfl⟩),⟨by simp,fun b x hx _=>by rw[aQ (aY hx)];exact hx,fun H0 _ h=>h.app _⟩⟩
  ·exact⟨_,_,rfl,.inr (.inr ⟨_,_,rfl,jC,aO rfl⟩),⟨by simp,fun b x hx _=>by rw[aQ (aY hx)];exact hx,fun H0 _ h=>h.app _⟩⟩
  ·simp only[hg,if_true]
   refine⟨_,_,rfl,.inr (.inr ⟨_,_,rfl,ht,bX (aY hg)⟩),⟨by simp,fun b x hx bK=>?_,fun H0 h0 h=>h.set (Nat.le_trans h0 ht) _⟩⟩
   have:t≠b:=fun h=>bK e (by rw[h])
   rw[bj this];exact hx
theorem l4 (n0:Nat)(H:af):mO n0 H .nil:=.inl rfl
theorem mO.ext {n0:Nat}{H H':af}{k:SK}(h:mO n0 H k)(hx:Ext H H'):mO n0 H' k:=by
 rcases h with h|h|⟨t,e,h,h1,h2⟩
 ·exact .inl h
 ·exact .inr (.inl h)
 ·exact .inr (.inr ⟨t,e,h,h1,hx.get h2⟩)
theorem mO.set {n0:Nat}{H:af}{k:SK}(h:mO n0 H k){c:Nat}{x:B}(hx:H[c]?=some x)(ht:∀e,x≠.tok e)(y:B):mO n0 (H.set c y) k:=by
 rcases h with h|h|⟨t,e,h,h1,h2⟩
 ·exact .inl h
 ·exact .inr (.inl h)
 ·refine .inr (.inr ⟨t,e,h,h1,?_⟩)
  have:c≠t:=fun he=>by subst he;rw[hx]at h2;cases h2;exact ht _ rfl
  rw[bj this];exact h2
theorem Fp {n b:Nat}{res:List Rs}{Q:Out→af→Prop}{R:av}{H:af}(h:R n=.bJ [.ptr b 0])(hd:H[b]?=some .zE)
  (hq:match p0 R (H.set b .dead) res with|some v=>Q (.val v) (H.set b .dead)|none=>False):RR n res Q (.ex .ret R) H :=
 ⟨[b],by rw[h];rfl,by simp,by simp[hd],hq⟩
theorem L9 (b:Nat):nD (.bJ []) b=.bJ [.ptr b 0]:=rfl
theorem iY {n m:Nat}(h:(n+n/4+512)*m≤281474976710656):cU n m=true:=by simp[cU,h]
theorem all_map {α:Type}{enc:α→List T}{n:Nat}(hn:∀x,(enc x).length=n)(l:List α):(l.map enc).all (fun c=>c.length==n)=true:=by simp[hn]
def pS {α:Type}(enc:α→List T)(n n0:Nat)(H:af)(t:T)(l:List α):Prop :=
 (l=[]∧t=.sl .nil [])∨∃b,t=.ax b 0 l.length n∧H[b]?=some (.cells (aE enc l))∧n0≤b
theorem nX {α:Type}(enc:α→List T)(n n0:Nat)(H:af):pS enc n n0 H (.sl .nil []) []:=.inl ⟨rfl,rfl⟩
theorem pS.ext {α:Type}{enc:α→List T}{n n0:Nat}{H H':af}{t:T}{l:List α}(h:pS enc n n0 H t l)(hx:Ext H H'):pS enc n n0 H' t l:=by
 rcases h with h|⟨b,h1,h2,h3⟩
 ·exact .inl h
 ·exact .inr ⟨b,h1,hx.get h2,h3⟩
theorem pS.len {α:Type}{enc:α→List T}{n n0:Nat}{H:af}{t:T}{l:List α}(h:pS enc n n0 H t l):iH H .sl t=some l.length:=by
 rcases h with⟨rfl,rfl⟩|⟨b,rfl,_,_⟩<;>rfl
structure Se (n0:Nat)(H:af)(t:T)(H':af):Prop where
 len:H.length≤H'.length
 get:∀b x,H[b]?=some x→(∀off len n,t≠.ax b off len n)→H'[b]?=some x
 ext:∀H0:af,H0.length≤n0→Ext H0 H→Ext H0 H'
theorem l6 {α:Type}{enc:α→List T}{n n0:Nat}(hn:∀x,(enc x).length=n){H:af}{t:T}{l:List α}{bytes:Nat}(new:List α)(h:pS enc n n0 H t l)(jC:n0≤H.length)(iJ:new≠[])(hr:cU (l.length+new.length) bytes=true) :
  ∃t' H',jA H n bytes t (new.map enc)=some (t',H')∧pS enc n n0 H' t' (l++new)∧Se n0 H t H':=by
 have qk:(new.map enc).flatten=aE enc new:=by simp[aE,List.flatMap]
 have rn:∀l:List α,aE enc l++aE enc new=aE enc (l++new):=fun l=>by simp[aE]
 unfold jA
 cases new with
 | nil=>exact absurd rfl iJ
 | cons c new =>
  rcases h with⟨rfl,rfl⟩|⟨b,rfl,hb,M4⟩
  ·simp only[List.map_cons,List.length_cons,List.length_nil,List.length_map,Nat.zero_add]at hr qk ⊢
   simp only[hr,and_true,if_true]
   refine⟨_,_,rfl,.inr ⟨H.length,by simp,?_,jC⟩,⟨by simp,fun b x hx _=>by rw[aQ (aY hx)];exact hx,fun H0 _ h=>h.app _⟩⟩
   rw[aO rfl,qk];rfl
  ·have hc:l.length*n=(aE enc l).length:=(da hn l).symm
   simp only[List.map_cons,List.length_cons,List.length_map]at hr qk ⊢
   simp only[hb,hc,hr,and_self,if_true]
   refine⟨_,_,rfl,.inr ⟨H.length,by simp,?_,jC⟩,⟨by simp,fun b' x hx bK=>?_,fun H0 h0 h=>(h.set (Nat.le_trans h0 M4) _).app _⟩⟩
   ·rw[aO (by simp),qk,rn]
   ·have XI:b≠b':=fun e=>bK 0 l.length n (by rw[e])
    rw[aQ (by rw[List.length_set];exact aY hx),bj XI];exact hx
theorem ve {α:Type}{enc:α→List T}{n:Nat}(hn:∀x,(enc x).length=n)(l:List α):sG (aE enc l) 0 l.length n=l.map enc:=by
 unfold sG
 refine List.ext_getElem? fun i=>?_
 by_cases hi:i<l.length
 ·have:=gb hn (List.getElem?_eq_getElem hi) 0 n (by omega)
  rw[nf]at this
  split at this
  ·simp only[Option.some.injEq,Nat.add_zero,List.drop_zero]at this
   simp only[List.getElem?_map,List.getElem?_range hi,Option.map_some,Nat.zero_add,this,List.getElem?_eq_getElem hi]
   rw[List.take_of_length_le (by rw[hn];omega)]
  ·cases this
 ·rw[List.getElem?_eq_none (by simp;omega),List.getElem?_eq_none (by simp;omega)]
theorem W.uG {α:Type}{enc:α→List T}{n:Nat}(hn:∀x,(enc x).length=n){E:Env}{f:Nat}{az:List T}{H:af}{l:List α}{Q:Out→af→Prop}
  (h:W E (.call f az) H (fun o H'=>∃b,o=.val (.ax b 0 l.length n)∧H'[b]?=some (.cells (aE enc l))∧Q (.val (.sl .arg (l.map enc))) (H'.set b .dead))):W E (.call f az) H Q:=by
 refine .qa _ h fun o H' ⟨b,ho,hb,hq⟩=>⟨_,b,_,ho,rfl,hb,?_⟩
 have hc:0+l.length*n≤(aE enc l).length:=by rw[da hn];omega
 simp only[Bm,Go.Rmp.uG,hc,and_self,if_true,ve hn]
 exact hq
end Go.Rmp
end
