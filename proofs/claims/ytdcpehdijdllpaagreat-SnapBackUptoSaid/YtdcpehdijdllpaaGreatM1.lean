/- Part of a proof of a law of this seat: the machine of plain values, its simulation, and the contracts of the functions that the law reaches. Conditions: none beyond the given row. -/
import Derived.Test.YtdcpehdijdllpaaGreatM0
import Derived.RangeFuncRecord
import Derived.RangeFuncIn
import Derived.OpenShut
import Derived.RowKit3
import Derived.ChangeSame
import Derived.ReadAgain
import Derived.ChangeCalls
import Derived.Deep.Frames
import Derived.Laws.Strings
open Int renaming reduceLT → q6, reduceLE → q7, reduceBEq → q8, reduceBNe → q9, reduceEq → y1
open Nat renaming reduceAdd → y2, reduceLeDiff → y3, reduceLT → y4, reduceEqDiff → y5
set_option linter.unusedSimpArgs false
set_option linter.unusedVariables false
set_option linter.unnecessarySimpa false
set_option maxHeartbeats 4000000
section
namespace Go.Rmp
section
variable {P:Program} {w0 w:World} {g:Ctx} {H H':af} {R:ar} {ρ:Operand→Value} {t:T}
theorem fL {ty:TypeId}{z:List T}(h:zeroOf P ty=some z):∃i zv,P.info? ty=some i∧i.zero=some zv∧eX zv.cells.toList=some z:=by
 unfold zeroOf at h
 cases h1:P.info? ty with
 | none=>simp[h1]at h
 | some i =>
  simp only[h1]at h
  cases h2:i.zero with
  | none=>simp[h2]at h
  | some zv=>simp only[h2]at h;exact⟨i,zv,rfl,h2,h⟩
theorem x7 {iB:List TypeId}{rt:TypeId}{mu:Bool}{as:List X}{vs:List Value}{b:Bo}(hc:lx P mu iB as=some b)(h:SR w0 g H w)(hv:bC g w (as.map (X.ev R)) vs)(he:al R H b=some (t,H')) :
  b7 P w0 g H w (Builtin.append_ iB.toArray rt vs.toArray) t H':=by
 unfold lx at hc
 split at hc
 ·rename_i sT xT x y
  cases vs with
  | nil=>have:=hv.1;simp at this
  | cons vx vs =>
   cases vs with
   | nil=>have:=hv.1;simp at this
   | cons vy vs =>
    cases vs with
    | cons _ _=>have:=hv.1;simp at this
    | nil =>
     have hx:VR g w (x.ev R) vx:=hv.head
     have hy:VR g w (y.ev R) vy:=hv.tail.head
     cases hs:P.underlying sT with
     | none=>simp[hs]at hc
     | some ds =>
      cases Iv:P.underlying xT with
      | none=>cases ds<;>simp[hs,Iv]at hc
      | some dx =>
       cases ds<;>simp only[hs,Iv]at hc<;>(try (cases hc;done))
       rename_i e
       cases hi:P.info? e with
       | none=>simp[hi]at hc
       | some ei =>
        simp only[hi]at hc
        cases hz:ei.zero with
        | none=>simp[hz]at hc
        | some zv =>
         simp only[hz]at hc
         split at hc
         ·rename_i cE
          simp only[Bool.and_eq_true,beq_iff_eq,bne_iff_ne]at cE
          simp at hc;subst hc
          have E:oh P sT xT e ei zv ei.size ei.bytes:=⟨hs,hi,⟨dx,Iv,fun k e=>by subst e;simp[Df]at cE⟩,rfl,hz,cE.1.2,rfl,cE.2⟩
          simp only[al]at he
          cases rQ:bK H ei.size (y.ev R)with
          | none=>simp[rQ]at he
          | some new =>
           simp only[rQ]at he
           cases mu with
           | true =>
            simp only[if_true]at he
            exact C7 E h hx.zg hy rQ he
           | false =>
            simp only[Bool.false_eq_true,if_false]at he
            generalize x.ev R=tx at hx he
            cases tx<;>(try simp only[reduceCtorEq]at he)
            split at he
            ·rename_i cr
             exact Ih E h hx hy cr rQ he
            ·cases he
         ·cases hc
 ·cases hc
theorem II {iB:List TypeId}{rt:TypeId}{as:List X}{vs:List Value}{b:Bo}(hc:vP P iB as=some b)(h:SR w0 g H w)(hv:bC g w (as.map (X.ev R)) vs)(he:al R H b=some (t,H')) :
  b7 P w0 g H w (Builtin.append_ iB.toArray rt vs.toArray) t H':=by
 unfold vP at hc
 split at hc
 ·rename_i sT xT x k
  cases vs with
  | nil=>have:=hv.1;simp at this
  | cons vx vs =>
   cases vs with
   | nil=>have:=hv.1;simp at this
   | cons vk vs =>
    cases vs with
    | cons _ _=>have:=hv.1;simp at this
    | nil =>
     have hx:VR g w (x.ev R) vx:=hv.head
     have hk:VR g w (k.ev R) vk:=hv.tail.head
     cases hs:P.underlying sT with
     | none=>simp[hs]at hc
     | some ds =>
      cases Iv:P.underlying xT with
      | none=>cases ds<;>simp[hs,Iv]at hc
      | some dx =>
       cases ds<;>cases dx<;>simp only[hs,Iv]at hc<;>(try (cases hc;done))
       rename_i e kn
       cases hi:P.info? e with
       | none=>simp[hi]at hc
       | some ei =>
        cases hz:zeroOf P e with
        | none=>simp[hi,hz]at hc
        | some z =>
         simp only[hi,hz]at hc
         split at hc
         ·rename_i cE
          simp only[bne_iff_ne,ne_eq]at cE
          simp only[Option.some.injEq]at hc;subst hc
          obtain⟨i,zv,h1,h2,h3⟩:=fL hz
          rw[hi]at h1;cases h1
          simp only[al,Option.bind_eq_some_iff]at he
          obtain⟨kk,bN,he⟩:=he
          generalize k.ev R=tk at hk bN
          cases hk<;>simp only[cq]at bN<;>(try (cases bN;done))
          rename_i kq m
          split at bN
          ·rename_i hm
           simp only[Option.some.injEq]at bN
           subst bN
           have:=Iu (rt:=rt) (kq:=kq) hs Iv hi h2 h3 cE h hx he
           rw[Int.toNat_of_nonneg hm]at this
           exact this
          ·cases bN
         ·cases hc
 ·cases hc
theorem IJ {f:FuncId}{n:Nat}{x y:X}{args:Array Operand}{ρ:Operand→Value}(vn:zs P f=some n)(h:SR w0 g H w)(iq:bC g w ([x,y].map (X.ev R)) (args.toList.map ρ))(he:AQ H n (x.ev R) (y.ev R)=some (t,H')) :
  IE P w0 g H w (callFunc f (args.map ρ)) t H':=by
 unfold zs at vn
 cases hf:P.funcs[f]? with
 | none=>simp[hf]at vn
 | some fn =>
  simp only[hf]at vn
  cases hp:fn.params[0]? with
  | none=>simp[hp]at vn
  | some tS =>
   simp only[hp]at vn
   cases ht:P.underlying tS with
   | none=>simp[ht]at vn
   | some d =>
    cases d<;>simp only[ht]at vn<;>(try (cases vn;done))
    rename_i e
    cases hi:P.info? e with
    | none=>simp[hi]at vn
    | some ei =>
     simp only[hi]at vn
     split at vn
     ·rename_i hc
      simp only[Option.some.injEq]at vn;subst vn
      simp only[Bool.and_eq_true,KO,Option.isNone_iff_eq_none,beq_iff_eq,bne_iff_ne,ne_eq]at hc
      obtain⟨⟨⟨⟨c1,c2⟩,c3⟩,c4⟩,⟨c5,c6⟩,c7⟩:=hc
      have QB:Extern.find fn=some (Extern.SlicesOverlaps.overlaps fn.params fn.resultTypes):=by
       have r1:Extern.allGenericRows.lookup "slices.overlaps"=none:=by kernel_rfl
       have r2:Extern.allTypedRows.lookup "slices.overlaps"=some Extern.SlicesOverlaps.overlaps:=by kernel_rfl
       unfold Extern.find
       simp only[c4,c5,c6,c7,r1,r2,Option.map_none,Option.map_some]
       rfl
      cases ha:args.toList.map ρ with
      | nil=>rw[ha]at iq;have:=iq.1;simp at this
      | cons vx vs =>
       cases vs with
       | nil=>rw[ha]at iq;have:=iq.1;simp at this
       | cons vy vs =>
        cases vs with
        | cons _ _=>rw[ha]at iq;have:=iq.1;simp at this
        | nil =>
         rw[ha]at iq
         have hx:VR g w (x.ev R) vx:=iq.head
         have hy:VR g w (y.ev R) vy:=iq.tail.head
         have nn:args.map ρ=#[vx,vy]:=by apply Array.ext';simp[ha]
         obtain⟨v,w',g',h1,h2,h3,h4,h5⟩:=Iw (results:=fn.resultTypes) hp ht hi h hx hy he
         refine⟨.value v,v,w',g',?_,.inl rfl,h2,h3,h4,h5⟩
         rw[nn,run_callFunc_extern hf (by simpa using c1) (by simp[c2]) c3 QB,h1]
         rfl
     ·cases vn
theorem vR {bi:Builtin}{iB:List TypeId}{rt:TypeId}{cs:Array Bool}{mu:Bool}{as:List X}{vs:List Value}{b:Bo}(hc:jk P mu bi iB as=some b)(h:SR w0 g H w)(hv:bC g w (as.map (X.ev R)) vs)(he:al R H b=some (t,H')) :
  IE P w0 g H w (builtin bi iB.toArray rt cs vs.toArray) t H':=by
 have two:∀(x y:X),as=[x,y]→∃vx vy,vs=[vx,vy]∧VR g w (x.ev R) vx∧VR g w (y.ev R) vy:=by
  rintro x y rfl
  cases vs with
  | nil=>have:=hv.1;simp at this
  | cons vx vs =>
   cases vs with
   | nil=>have:=hv.1;simp at this
   | cons vy vs =>
    cases vs with
    | cons _ _=>have:=hv.1;simp at this
    | nil=>exact⟨vx,vy,rfl,hv.head,hv.tail.head⟩
 unfold jk at hc
 split at hc
 ·cases hz:vP P iB as with
  | some b'=>rw[hz]at hc;simp only[Option.some.injEq]at hc;subst hc;exact(II hz h hv he).mW
  | none=>rw[hz]at hc;exact(x7 hc h hv he).mW
 ·-- cap
  rename_i ty x
  cases vs with
  | nil=>have:=hv.1;simp at this
  | cons vx vs =>
   cases vs with
   | cons _ _=>have:=hv.1;simp at this
   | nil =>
    have hx:VR g w (x.ev R) vx:=hv.head
    cases hu:P.underlying ty with
    | none=>simp[hu]at hc
    | some d =>
     cases d<;>simp only[hu]at hc<;>(try (cases hc;done))
     simp only[Option.some.injEq]at hc;subst hc
     simp only[al]at he
     generalize x.ev R=tx at hx he
     cases tx<;>simp only[reduceCtorEq,Option.some.injEq,Prod.mk.injEq]at he
     obtain⟨rfl,rfl⟩:=he
     exact(Im hu h hx).mW
 ·-- copy
  rename_i dT sT x y
  obtain⟨vx,vy,rfl,hx,hy⟩:=two x y rfl
  cases hu:P.underlying dT with
  | none=>simp[hu]at hc
  | some d =>
   cases d<;>simp only[hu]at hc<;>(try (cases hc;done))
   rename_i e
   cases hi:P.info? e with
   | none=>simp[hi]at hc
   | some ei =>
    simp only[hi,Option.map_some,Option.some.injEq]at hc;subst hc
    simp only[al]at he
    exact(Ip hu hi h hx hy he).mW
 ·-- len
  rename_i ty x
  cases vs with
  | nil=>have:=hv.1;simp at this
  | cons vx vs =>
   cases vs with
   | cons _ _=>have:=hv.1;simp at this
   | nil =>
    have hx:VR g w (x.ev R) vx:=hv.head
    cases hu:P.underlying ty with
    | none=>simp[hu]at hc
    | some d =>
     have hl:∃k,VQ k d=true∧b=.len k x:=by
      cases d<;>simp[hu]at hc
      ·exact⟨.str,rfl,hc.symm⟩
      ·exact⟨.sl,rfl,hc.symm⟩
      ·exact⟨.map,rfl,hc.symm⟩
     obtain⟨k,hk,rfl⟩:=hl
     simp only[al,Option.map_eq_some_iff,Prod.mk.injEq]at he
     obtain⟨n,h1,rfl,rfl⟩:=he
     exact(HM hu hk h hx h1).mW
 ·-- clear
  rename_i ty x
  cases vs with
  | nil=>have:=hv.1;simp at this
  | cons vx vs =>
   cases vs with
   | cons _ _=>have:=hv.1;simp at this
   | nil =>
    have hx:VR g w (x.ev R) vx:=hv.head
    cases hu:P.underlying ty with
    | none=>simp[hu]at hc
    | some d =>
     cases d<;>simp only[hu]at hc<;>(try (cases hc;done))
     rename_i e
     cases hi:P.info? e with
     | none=>simp[hi]at hc
     | some ei =>
      cases hz:zeroOf P e with
      | none=>simp[hi,hz]at hc
      | some z =>
       simp only[hi,hz,Option.some.injEq]at hc;subst hc
       obtain⟨i,zv,k1,k2,k3⟩:=fL hz
       rw[hi]at k1;cases k1
       simp only[al]at he
       generalize x.ev R=tx at hx he
       cases tx<;>(try (simp only[reduceCtorEq]at he;done))
       rename_i bb off len n'
       simp only at he
       cases hb:H[bb]? with
       | none=>simp[hb]at he
       | some y =>
        cases y<;>simp only[hb]at he<;>(try (cases he;done))
        rename_i cs'
        split at he
        ·rename_i uh
         obtain⟨rfl,vN,hle⟩:=uh
         simp only[Option.some.injEq,Prod.mk.injEq]at he
         obtain⟨rfl,rfl⟩:=he
         exact(ID hu hi k2 k3 h hx hb vN hle).mW
        ·cases he
 ·rename_i x y
  obtain⟨vx,vy,rfl,hx,hy⟩:=two x y rfl
  simp at hc;subst hc
  simp only[al]at he
  generalize x.ev R=tx at hx he
  generalize y.ev R=Mw at hy he
  cases tx<;>cases Mw<;>simp only[reduceCtorEq,Option.some.injEq,Prod.mk.injEq]at he
  obtain⟨rfl,rfl⟩:=he
  exact(Me h hx hy).mW
 ·rename_i x y
  obtain⟨vx,vy,rfl,hx,hy⟩:=two x y rfl
  simp at hc;subst hc
  simp only[al]at he
  generalize x.ev R=tx at hx he
  generalize y.ev R=Mw at hy he
  cases tx<;>cases Mw<;>simp only[reduceCtorEq,Option.some.injEq,Prod.mk.injEq]at he
  obtain⟨rfl,rfl⟩:=he
  exact(Mf h hx hy).mW
 ·-- delete
  rename_i ty xt m k
  obtain⟨vm,vk,rfl,hm,hk⟩:=two m k rfl
  cases hu:P.underlying ty with
  | none=>simp[hu]at hc
  | some d =>
   cases d<;>simp only[hu]at hc<;>(try (cases hc;done))
   rename_i key elem
   cases jC:uj P key with
   | none=>simp[jC]at hc
   | some kt =>
    simp only[jC]at hc
    split at hc
    ·rename_i pG
     simp at hc;subst hc
     simp only[al]at he
     generalize m.ev R=tm at hm he
     cases tm<;>(try simp only[reduceCtorEq]at he)
     rename_i bb
     split at he
     ·rename_i xS
      cases hb:H[bb]? with
      | none=>simp[hb]at he
      | some z =>
       cases z<;>simp only[hb]at he<;>(try (cases he;done))
       rename_i es
       cases hr:da (k.ev R) es with
       | none=>simp[hr]at he
       | some r =>
        have:=Ib (rt:=rt) (xt:=xt) hu pG h hm hk xS hb hr
        cases r with
        | none=>simp only[hr,Option.some.injEq,Prod.mk.injEq]at he;obtain⟨rfl,rfl⟩:=he;exact this.mW
        | some i=>simp only[hr,Option.some.injEq,Prod.mk.injEq]at he;obtain⟨rfl,rfl⟩:=he;exact this.mW
     ·cases he
    ·cases hc
 ·cases hc
theorem zw {ty:TypeId}{m k:X}{e:Nat}{kt:KT}{z:T}(h:x0 P ty m k=some (e,kt,z)):∃key ei zv,P.underlying ty=some (.map key e)∧P.info? e=some ei∧ei.zero=some zv∧mw zv=some z∧my P key kt=true:=by
 unfold x0 at h
 cases hu:P.underlying ty with
 | none=>simp[hu]at h
 | some d =>
  cases d<;>simp only[hu]at h<;>(try (cases h;done))
  rename_i key e'
  cases h1:uj P key with
  | none=>simp[h1]at h
  | some kt' =>
   cases h2:P.info? e' with
   | none=>simp[h1,h2]at h
   | some ei =>
    simp only[h1,h2]at h
    cases h3:ei.zero with
    | none=>simp[h3]at h
    | some zv =>
     simp only[h3]at h
     cases h4:mw zv with
     | none=>simp[h4]at h
     | some z' =>
      simp only[h4]at h
      split at h
      ·rename_i pG
       simp at h
       obtain⟨rfl,rfl,rfl⟩:=h
       exact⟨key,ei,zv,rfl,h2,h3,h4,pG⟩
      ·cases h
theorem zx {ty:TypeId}{m k v:X}{vm vk vv:Value}{e:Nat}{kt:KT}{z:T}(hc:x0 P ty m k=some (e,kt,z))(h:SR w0 g H w)(hm:VR g w (m.ev R) vm)(hk:VR g w (k.ev R) vk)(hv:VR g w (v.ev R) vv)(he:al R H (.ze kt m k v)=some (t,H')) :
  IE P w0 g H w (do Instr.mapUpdate ty vm vk vv;pure Next.skip) t H':=by
 obtain⟨key,ei,zv,hu,hi,hz,pJ,pG⟩:=zw hc
 simp only[al]at he
 generalize m.ev R=tm at hm he
 cases tm<;>(try simp only[reduceCtorEq]at he)
 rename_i bb
 split at he
 ·rename_i xS
  cases hb:H[bb]? with
  | none=>simp[hb]at he
  | some y =>
   cases y<;>simp only[hb]at he<;>(try (cases he;done))
   rename_i es
   cases hr:da (k.ev R) es with
   | none=>simp[hr]at he
   | some r =>
    obtain⟨w',g',h1,h2,h3,h4⟩:=Ia hu pG h hm hk hv xS hb hr
    cases r with
    | none=>simp only[hr,Option.some.injEq,Prod.mk.injEq]at he;obtain⟨rfl,rfl⟩:=he;exact⟨.skip,undef,w',g',by simp[h1],.inr ⟨rfl,rfl⟩,h2,h3,gR,h4⟩
    | some i=>simp only[hr,Option.some.injEq,Prod.mk.injEq]at he;obtain⟨rfl,rfl⟩:=he;exact⟨.skip,undef,w',g',by simp[h1],.inr ⟨rfl,rfl⟩,h2,h3,gR,h4⟩
 ·cases he
theorem IK {ty:TypeId}{m k:X}{vm vk:Value}{e:Nat}{kt:KT}{z:T}{ok:Bool}(hc:x0 P ty m k=some (e,kt,z))(h:SR w0 g H w)(hm:VR g w (m.ev R) vm)(hk:VR g w (k.ev R) vk)(he:al R H (.mT kt z ok m k)=some (t,H')) :
  b7 P w0 g H w (Instr.lookup ty vm vk ok) t H':=by
 obtain⟨key,ei,zv,hu,hi,hz,pJ,pG⟩:=zw hc
 simp only[al]at he
 split at he
 ·rename_i xS
  cases ib:gq H (m.ev R)with
  | none=>simp[ib]at he
  | some es =>
   simp only[ib]at he
   cases hr:da (k.ev R) es with
   | none=>simp[hr]at he
   | some r =>
    cases r with
    | none =>
     simp only[hr,Option.some.injEq,Prod.mk.injEq]at he
     obtain⟨rfl,rfl⟩:=he
     exact zn hu hi hz pJ pG h hm hk xS ib hr rfl
    | some i =>
     simp only[hr]at he
     cases hx:es[i]? with
     | none=>simp[hx]at he
     | some x =>
      simp only[hx,Option.some.injEq,Prod.mk.injEq]at he
      obtain⟨rfl,rfl⟩:=he
      exact zn hu hi hz pJ pG h hm hk xS ib hr (by simp[hx])
 ·cases he
theorem Bi {ty:TypeId}{ps:List (Nat×X)}{pv:List (Nat×Value)}{b:Bo}(hc:ov P ty ps=some b)(h:SR w0 g H w)(hv:PV g w R ps pv)(he:al R H b=some (t,H')):b7 P w0 g H w (Instr.build ty pv.toArray) t H':=by
 unfold ov at hc
 cases hu:P.underlying ty with
 | none=>simp[hu]at hc
 | some d =>
  cases hz:zeroOf P ty with
  | none=>cases d<;>simp[hu,hz]at hc
  | some z =>
   cases d<;>simp only[hu,hz]at hc<;>(try (cases hc;done))
   rename_i fs
   split at hc
   ·rename_i cE
    simp only[Bool.and_eq_true]at cE
    simp only[Option.some.injEq]at hc;subst hc
    obtain⟨i,zv,h1,h2,h3⟩:=fL hz
    simp only[al]at he
    split at he
    ·rename_i l hl
     simp only[Option.map_eq_some_iff,Prod.mk.injEq]at he
     obtain⟨cs,h4,rfl,rfl⟩:=he
     refine Ba hu h1 h2 h3 (fun f hf=>?_) (fun p hp=>?_) h hv hl h4
     ·have:=cE.1
      simp only[vQ,List.all_eq_true]at this
      exact Option.isSome_iff_exists.1 (this f hf)
     ·have:=cE.2
      simp only[List.all_eq_true,decide_eq_true_eq]at this
      exact this p hp
    ·cases he
   ·cases hc
theorem IL {ty:TypeId}{n:Nat}{ps:List (Nat×X)}{pv:List (Nat×Value)}{b:Bo}{mu:Bool}(hc:Bf P mu ty n ps=some b)(h:SR w0 g H w)(hv:PV g w R ps pv)(he:al R H b=some (t,H')):b7 P w0 g H w (Instr.buildSlice ty n pv.toArray) t H':=by
 unfold Bf at hc
 cases hu:P.underlying ty with
 | none=>simp[hu]at hc
 | some d =>
  cases d<;>simp only[hu]at hc<;>(try (cases hc;done))
  rename_i e
  cases hi:P.info? e with
  | none=>simp[hi]at hc
  | some ei =>
   cases hz:zeroOf P e with
   | none=>simp[hi,hz]at hc
   | some z =>
    simp only[hi,hz]at hc
    split at hc
    ·rename_i cE
     simp only[Bool.and_eq_true,beq_iff_eq,decide_eq_true_eq]at cE
     simp at hc;subst hc
     obtain⟨i,zv,h1,h2,h3⟩:=fL hz
     rw[hi]at h1;cases h1
     cases mu with
     | false =>
      simp only[Bool.false_eq_true,if_false,al,Option.map_eq_some_iff,Prod.mk.injEq]at he
      obtain⟨fs,h4,rfl,rfl⟩:=he
      exact Ij hu hi h2 h3 cE.1 cE.2 h hv h4
     | true =>
      simp only[if_true,al,Option.bind_eq_some_iff]at he
      obtain⟨fs,h4,he⟩:=he
      split at he
      ·simp only[Option.some.injEq,Prod.mk.injEq]at he
       obtain⟨rfl,rfl⟩:=he
       exact Is hu hi h2 h3 cE.1 cE.2 h hv h4
      ·cases he
    ·cases hc
theorem IM {ty:TypeId}{mu:Bool}{l c:X}{vl vc:Value}{b:Bo}(hc:Bg P mu ty l c=some b)(h:SR w0 g H w)(hl:VR g w (l.ev R) vl)(rT:VR g w (c.ev R) vc)(he:al R H b=some (t,H')):b7 P w0 g H w (Instr.makeSlice ty vl vc) t H':=by
 unfold Bg at hc
 cases hu:P.underlying ty with
 | none=>simp[hu]at hc
 | some d =>
  cases d<;>simp only[hu]at hc<;>(try (cases hc;done))
  rename_i e
  cases hi:P.info? e with
  | none=>simp[hi]at hc
  | some ei =>
   cases hz:zeroOf P e with
   | none=>simp[hi,hz]at hc
   | some z =>
    simp only[hi,hz]at hc
    split at hc
    ·rename_i cE
     simp only[Bool.and_eq_true,beq_iff_eq,bne_iff_ne]at cE
     simp at hc;subst hc
     obtain⟨i,zv,h1,h2,h3⟩:=fL hz
     rw[hi]at h1;cases h1
     simp only[al]at he
     cases Hc:cq (l.ev R)with
     | none=>simp[Hc]at he
     | some nl =>
      cases PD:cq (c.ev R)with
      | none=>simp[Hc,PD]at he
      | some nc =>
       simp only[Hc,PD]at he
       split at he
       ·rename_i iu
        refine Ik (mu:=mu) hu hi h2 h3 cE.1 cE.2 h hl rT Hc PD iu.1 iu.2.1 iu.2.2 ?_
        cases mu with
        | true=>simpa using he
        | false =>
         simp only[Bool.false_eq_true,if_false]at he ⊢
         split at he
         ·rename_i e0;rw[if_pos e0];simpa using he
         ·rename_i e0;rw[if_neg e0];simpa using he
       ·cases he
    ·cases hc
theorem RV.get {xs:List Operand}(h:RV g w R ρ xs){x:Operand}{y:X}(hx:x∈xs)(hc:aK x=some y):VR g w (y.ev R) (ρ x):=h x hx y hc
theorem Mz {mu:Bool}{o:Oper}{b:Bo}(hρ:∀f:FuncId,ρ (.func f)=.func (.func f) #[] #[])(hc:bD P mu o.op=some b)(h:SR w0 g H w)(hv:RV g w R ρ o.op.operands.toList)(he:al R H b=some (t,H')):IE P w0 g H w (execOp ρ o) t H':=by
 obtain⟨dst,op,ty,pos,after,guard⟩:=o
 cases op<;>simp only[bD]at hc<;>(try (cases hc;done))<;>simp only[Op.operands]at hv
 case move x =>
  simp only[Option.map_eq_some_iff]at hc
  obtain⟨y,h1,rfl⟩:=hc
  simp only[al,Option.some.injEq,Prod.mk.injEq]at he
  obtain⟨rfl,rfl⟩:=he
  exact⟨_,_,w,g,rfl,.inl rfl,.refl _ _,h,hv.get (by simp) h1,.refl _ _⟩
 case assign x =>
  simp only[Option.map_eq_some_iff]at hc
  obtain⟨y,h1,rfl⟩:=hc
  simp only[al,Option.some.injEq,Prod.mk.injEq]at he
  obtain⟨rfl,rfl⟩:=he
  exact⟨_,_,w,g,rfl,.inl rfl,.refl _ _,h,hv.get (by simp) h1,.refl _ _⟩
 case pick c x y =>
  cases h1:aK c with
  | none=>simp[h1]at hc
  | some c' =>
   cases h2:aK x with
   | none=>simp[h1,h2]at hc
   | some x' =>
    cases h3:aK y with
    | none=>simp[h1,h2,h3]at hc
    | some y' =>
     simp only[h1,h2,h3,Option.some.injEq]at hc
     subst hc
     have vc:=hv.get (by simp) h1
     have vx:=hv.get (by simp) h2
     have vy:=hv.get (by simp) h3
     simp only[al]at he
     generalize c'.ev R=tc at vc he
     cases tc<;>(try simp only[reduceCtorEq]at he)
     simp only[Option.some.injEq,Prod.mk.injEq]at he
     obtain⟨rfl,rfl⟩:=he
     obtain⟨v,w',g',k1,k2⟩:=CW (P:=P) h vc vx vy
     refine⟨.value v,v,w',g',?_,.inl rfl,k2⟩
     simp only[execOp,Sem.run_bind,Sem.run_pure]at k1 ⊢
     generalize (asBool (ρ c)).run P w=r at k1 ⊢
     cases r<;>simp_all
 case alloc sK =>
  simp only[Option.map_eq_some_iff]at hc
  obtain⟨z,h1,rfl⟩:=hc
  obtain⟨i,zv,h2,h3,h4⟩:=fL h1
  simp only[al,Option.some.injEq,Prod.mk.injEq]at he
  obtain⟨rfl,rfl⟩:=he
  exact(A8 h2 h3 h4 h).mW
 case box sK x =>
  simp only[Option.map_eq_some_iff]at hc
  obtain⟨y,h1,rfl⟩:=hc
  simp only[al,Option.map_eq_some_iff,Prod.mk.injEq]at he
  obtain⟨cs,h2,rfl,rfl⟩:=he
  exact(HY h (hv.get (by simp) h1) h2).mW
 case build sK ps =>
  simp only[Option.bind_eq_some_iff]at hc
  obtain⟨qs,h1,h2⟩:=hc
  have hp:=oA (ρ:=ρ) _ _ h1 (by simpa using hv)
  have:=(Bi h2 h hp he).mW
  have e:(ps.map fun x=>(x.1,ρ x.2))=(ps.toList.map fun p=>(p.1,ρ p.2)).toArray:=by apply Array.ext';simp
  simp only[execOp]
  rw[e];exact this
 case buildSlice sK n ps =>
  simp only[Option.bind_eq_some_iff]at hc
  obtain⟨qs,h1,h2⟩:=hc
  have hp:=oA (ρ:=ρ) _ _ h1 (by simpa using hv)
  have:=(IL h2 h hp he).mW
  have e:(ps.map fun x=>(x.1,ρ x.2))=(ps.toList.map fun p=>(p.1,ρ p.2)).toArray:=by apply Array.ext';simp
  simp only[execOp]
  rw[e];exact this
 case insert sK m k v =>
  cases h1:aK m with
  | none=>simp[h1]at hc
  | some m' =>
   cases h2:aK k with
   | none=>simp[h1,h2]at hc
   | some k' =>
    cases h3:aK v with
    | none=>simp[h1,h2,h3]at hc
    | some v' =>
     simp only[h1,h2,h3,Option.map_eq_some_iff]at hc
     obtain⟨⟨e,kt,z⟩,h4,rfl⟩:=hc
     exact zx h4 h (hv.get (by simp) h1) (hv.get (by simp) h2) (hv.get (by simp) h3) he
 case mapUpdate sK m k v =>
  cases h1:aK m with
  | none=>simp[h1]at hc
  | some m' =>
   cases h2:aK k with
   | none=>simp[h1,h2]at hc
   | some k' =>
    cases h3:aK v with
    | none=>simp[h1,h2,h3]at hc
    | some v' =>
     simp only[h1,h2,h3,Option.map_eq_some_iff]at hc
     obtain⟨⟨e,kt,z⟩,h4,rfl⟩:=hc
     exact zx h4 h (hv.get (by simp) h1) (hv.get (by simp) h2) (hv.get (by simp) h3) he
 case load sK x =>
  simp only[Option.bind_eq_some_iff]at hc
  obtain⟨y,h1,h2⟩:=hc
  exact Dg h2 h (hv.get (by simp) h1) he
 case store sK a v =>
  cases h1:P.info? sK with
  | none=>simp[h1]at hc
  | some i =>
   cases h2:aK a with
   | none=>simp[h1,h2]at hc
   | some a' =>
    cases h3:aK v with
    | none=>simp[h1,h2,h3]at hc
    | some v' =>
     simp only[h1,h2,h3,Option.some.injEq]at hc
     subst hc
     simp only[al]at he
     cases h4:(v'.ev R).cells? with
     | none=>simp[h4]at he
     | some vs =>
      simp only[h4]at he
      split at he
      ·rename_i hn
       simp only[Option.map_eq_some_iff,Prod.mk.injEq]at he
       obtain⟨H1,h5,rfl,rfl⟩:=he
       obtain⟨w',g',k1,k2,k3,k4⟩:=Mj (P:=P) h1 h (hv.get (by simp) h2) (hv.get (by simp) h3) h4 hn h5
       exact⟨.skip,undef,w',g',by simp[execOp,k1],.inr ⟨rfl,rfl⟩,k2,k3,gR,k4⟩
      ·cases he
 case nilCheck x =>
  simp only[Option.map_eq_some_iff]at hc
  obtain⟨y,h1,rfl⟩:=hc
  have vx:=hv.get (by simp) h1
  simp only[al]at he
  have key:t=y.ev R∧H'=H∧∃v,(execOp ρ ⟨dst,.nilCheck x,ty,pos,after,guard⟩).run P w=.ok (.value v) w∧v=ρ x:=by
   simp only[execOp]
   generalize y.ev R=tx at vx he
   generalize ρ x=vv at vx
   cases vx<;>simp only[reduceCtorEq,Option.some.injEq,Prod.mk.injEq]at he<;>obtain⟨rfl,rfl⟩:=he<;>exact⟨rfl,rfl,_,rfl,rfl⟩
  obtain⟨rfl,rfl,v,k1,rfl⟩:=key
  exact⟨_,_,w,g,k1,.inl rfl,.refl _ _,h,vx,.refl _ _⟩
 case binOp op sK x y yt =>
  cases h1:aK x with
  | none=>simp[h1]at hc
  | some x' =>
   cases h2:aK y with
   | none=>simp[h1,h2]at hc
   | some y' =>
    simp only[h1,h2]at hc
    exact IG hc h (hv.get (by simp) h1) (hv.get (by simp) h2) he
 case unOp op sK x =>
  simp only[Option.map_eq_some_iff]at hc
  obtain⟨y,h1,rfl⟩:=hc
  simp only[al,Option.map_eq_some_iff,Prod.mk.injEq]at he
  obtain⟨t',h2,rfl,rfl⟩:=he
  exact(Ma h (hv.get (by simp) h1) h2).mW
 case convert s d x =>
  simp only[Option.bind_eq_some_iff]at hc
  obtain⟨y,h1,h2⟩:=hc
  exact Dh h2 h (hv.get (by simp) h1) he
 case makeFunc fn first ku =>
  cases fn<;>simp only[bD]at hc<;>(try (cases hc;done))
  rename_i f
  split at hc
  ·rename_i h0
   simp only[Option.map_eq_some_iff]at hc
   obtain⟨ys,h1,rfl⟩:=hc
   have:first=#[]:=Array.eq_empty_of_size_eq_zero h0
   subst this
   simp only[al,Option.some.injEq,Prod.mk.injEq]at he
   obtain⟨rfl,rfl⟩:=he
   have iq:=fK (ρ:=ρ) _ _ h1 (fun x hx=>hv x (by simpa using hx))
   have:=(Il (P:=P) (f:=f) h iq).mW
   have e:ku.map ρ=(ku.toList.map ρ).toArray:=by apply Array.ext';simp
   have e0:(#[]:Array Operand).map ρ=#[]:=by simp
   simp only[execOp]
   rw[e,e0];exact this
  ·cases hc
 case range sK m =>
  cases hu:P.underlying sK with
  | none=>simp[hu]at hc
  | some d =>
   cases d<;>simp only[hu]at hc<;>(try (cases hc;done))
   simp only[Option.map_eq_some_iff]at hc
   obtain⟨y,h1,rfl⟩:=hc
   have vm:=hv.get (by simp) h1
   simp only[al]at he
   generalize y.ev R=tm at vm he
   cases tm<;>(try (simp only[reduceCtorEq]at he;done))
   rename_i bb
   simp only[Option.map_eq_some_iff,Prod.mk.injEq]at he
   obtain⟨es,h2,rfl,rfl⟩:=he
   exact(Iz hu h vm h2).mW
 case next it str =>
  cases str<;>simp only[bD]at hc<;>(try (cases hc;done))
  simp only[Option.map_eq_some_iff]at hc
  obtain⟨y,h1,rfl⟩:=hc
  simp[al]at he
 case entry it =>
  simp only[Option.map_eq_some_iff]at hc
  obtain⟨y,h1,rfl⟩:=hc
  have vm:=hv.get (by simp) h1
  simp only[al]at he
  generalize y.ev R=tm at vm he
  cases tm<;>(try (simp only[reduceCtorEq]at he;done))
  rename_i bi off
  cases off with
  | succ _=>simp at he
  | zero =>
   simp only at he
   cases hi:H[bi]? with
   | none=>simp[hi]at he
   | some yi =>
    cases yi<;>simp only[hi]at he<;>(try (cases he;done))
    rename_i bb
    cases hb:H[bb]? with
    | none=>simp[hb]at he
    | some yb =>
     cases yb<;>simp only[hb]at he<;>(try (cases he;done))
     rename_i es ix P7 cur
     cases cur with
     | none=>simp at he
     | some c =>
      simp only at he
      split at he
      ·rename_i e;subst e
       simp only[Option.map_eq_some_iff,Prod.mk.injEq]at he
       obtain⟨e,h2,rfl,rfl⟩:=he
       exact(IC h vm hb h2).mW
      ·cases he
 case makeMap sK r =>
  cases r with
  | some _=>simp[bD]at hc
  | none =>
   simp only[bD,Option.some.injEq]at hc
   subst hc
   simp only[al,Option.some.injEq,Prod.mk.injEq]at he
   obtain⟨rfl,rfl⟩:=he
   exact(HZ h).mW
 case makeSlice sK l c =>
  cases h1:aK l with
  | none=>simp[h1]at hc
  | some l' =>
   cases h2:aK c with
   | none=>simp[h1,h2]at hc
   | some c' =>
    simp only[h1,h2]at hc
    exact(IM hc h (hv.get (by simp) h1) (hv.get (by simp) h2) he).mW
 case slice sK x lo hi mx =>
  cases h1:aK x with
  | none=>simp[h1]at hc
  | some x' =>
   cases h2:jD lo with
   | none=>simp[h1,h2]at hc
   | some lo' =>
    cases h3:jD hi with
    | none=>simp[h1,h2,h3]at hc
    | some ka =>
     cases h4:jD mx with
     | none=>simp[h1,h2,h3,h4]at hc
     | some mx' =>
      simp only[h1,h2,h3,h4]at hc
      exact Bh hc h (hv.get (by simp) h1) (oC h2 (fun z hz=>hv z (by simp;simp at hz;simp[hz]))) (oC h3 (fun z hz=>hv z (by simp;simp at hz;simp[hz]))) (oC h4 (fun z hz=>hv z (by simp;simp at hz;simp[hz]))) he
 case fieldAddr sK x f =>
  simp only[Option.bind_eq_some_iff]at hc
  obtain⟨y,h1,h2⟩:=hc
  exact(sI h2 h (hv.get (by simp) h1) he).mW
 case field sK x f =>
  simp only[Option.bind_eq_some_iff]at hc
  obtain⟨y,h1,h2⟩:=hc
  exact(sI h2 h (hv.get (by simp) h1) he).mW
 case indexAddr sK x i =>
  cases h1:aK x with
  | none=>simp[h1]at hc
  | some x' =>
   cases h2:aK i with
   | none=>simp[h1,h2]at hc
   | some i' =>
    simp only[h1,h2]at hc
    exact(zt hc h (hv.get (by simp) h1) (hv.get (by simp) h2) he).mW
 case index sK x i =>
  cases h1:aK x with
  | none=>simp[h1]at hc
  | some x' =>
   cases h2:aK i with
   | none=>simp[h1,h2]at hc
   | some i' =>
    simp only[h1,h2]at hc
    exact(zt hc h (hv.get (by simp) h1) (hv.get (by simp) h2) he).mW
 case lookup sK m k ok =>
  cases h1:aK m with
  | none=>simp[h1]at hc
  | some m' =>
   cases h2:aK k with
   | none=>simp[h1,h2]at hc
   | some k' =>
    simp only[h1,h2,Option.map_eq_some_iff]at hc
    obtain⟨⟨e,kt,z⟩,h4,rfl⟩:=hc
    exact(IK h4 h (hv.get (by simp) h1) (hv.get (by simp) h2) he).mW
 case extract x i =>
  simp only[Option.map_eq_some_iff]at hc
  obtain⟨y,h1,rfl⟩:=hc
  have vx:=hv.get (by simp) h1
  simp only[al]at he
  generalize y.ev R=tx at vx he
  cases tx<;>(try simp only[reduceCtorEq]at he)
  simp only[Option.map_eq_some_iff,Prod.mk.injEq]at he
  obtain⟨t',h2,rfl,rfl⟩:=he
  exact(HW h vx h2).mW
 case call c =>
  obtain⟨callee,args,iB⟩:=c
  cases callee
  case value cv =>
   cases cv<;>simp only[bD]at hc<;>(try (cases hc;done))
   rename_i f
   split at hc
   ·rename_i n x y vn h1
    simp only[Option.some.injEq]at hc;subst hc
    have iq:=fK (ρ:=ρ) _ _ h1 (fun x hx=>hv x (by simp[Call.operands];exact .inr (by simpa using hx)))
    simp only[al]at he
    have hd:=IJ vn h iq he
    simpa[execOp,resolve,hρ,Deferred.ofValue,invoke]using hd
   ·cases hc
  all_goals simp only[bD]at hc<;>(try (cases hc;done))
  rename_i bi
  simp only[Option.bind_eq_some_iff]at hc
  obtain⟨as,h1,h2⟩:=hc
  have iq:=fK (ρ:=ρ) _ _ h1 (fun x hx=>hv x (by simpa[Call.operands]using hx))
  have e:args.map ρ=(args.toList.map ρ).toArray:=by apply Array.ext';simp
  have e2:iB=iB.toList.toArray:=by simp
  have:=vR (rt:=ty) (cs:=args.map fun | .const _=>true|_=>false) h2 h iq he
  simp only[execOp,resolve,pure_bind,invoke]
  rw[e,e2]
  exact this
end
section
variable {P:Program} {w0 w:World} {g:Ctx} {H:af}
theorem SR.uk {b r o q:Nat}{x x':Obj}{y y':B}(h:SR w0 g H w)(hb:H[b]?=some y)(hφ:g.φ b=some (r,o,q))(h1:g.κ r 0=.mut b)(hr:w.heap[r]?=some x)(hs:fp x=true)(eI:fp x'=true)
  (pG:∀w',Le g w g w'→w'.heap[r]?=some x'→zj g w' b y') :
  Le g w g (w.putObj r x')∧SR w0 g (H.set b y') (w.putObj r x')∧Fr g H g (H.set b y'):=by
 have kc:b<H.length:=(List.getElem?_eq_some_iff.1 hb).1
 have tr:Tr w (w.putObj r x') gu (fun r'=>r'=r):=Tr.xU w r hs eI hr
 have le:Le g w g (w.putObj r x'):=Le.gO tr (fun _ _ h=>h) (fun _ _ h=>h) (fun _ _ _ h=>h) (fun _ _ hs=>hs.elim)
 refine⟨le,h.step (fun b'=>b'=b) tr le (fun _ _ hs=>hs.elim) (fun r' hm=>⟨b,by rw[hm];exact h1,rfl⟩) (fun r' j n6=>h.fresh r' j (by simpa[World.putObj]using n6)) (fun b' x hx=>by rw[List.length_set];exact h.rP b' x hx)
  (fun t e x hx=>by rw[List.length_set];exact h.iQ t e x hx) (fun _ _ _=>rfl) (fun _ _ _ _=>⟨id,id⟩) (fun _ _ _ _=>rfl) (fun b' x hx=>?_),by simp,fun b' x a _ d=>⟨ft a (by rintro rfl;rw[hφ]at d;cases d),d⟩⟩
 rcases eo kc hx with⟨rfl,rfl⟩|⟨bG,jh⟩
 ·exact .inr (pG _ le (World.putObj_heap_same (Array.getElem?_eq_some_iff.1 hr).1))
 ·exact .inl ⟨bG,jh⟩
theorem SR.Di {x:Obj}{y:B}(h:SR w0 g H w)(V7:fp x=true)
  (pG:∀g' w',Le g w g' w'→g'.κ w.heap.size 0=.mut H.length→g'.φ H.length=some (w.heap.size,0,0)→w'.heap[w.heap.size]?=some x→zj g' w' H.length y) :
  ∃g',Le g w g' (w.alloc x)∧SR w0 g' (H++[y]) (w.alloc x)∧Fr g H g' (H++[y])∧g'.φ H.length=some (w.heap.size,0,0):=by
 have vL:=Tr.alloc w x (.inl V7)
 have bG:∀r j ow,g.κ r j=ow→ow≠.free→r≠w.heap.size:=by rintro r j ow e hn rfl;exact hn (e▸h.fresh _ j (Nat.le_refl _))
 have V8:=h.HX (b:=H.length) (Nat.le_refl _)
 have le:Le g w ((g.row w.heap.size fun _=>.mut H.length).at H.length (w.heap.size,0,0)) (w.alloc x):=Le.gO vL
  (fun b' x hx=>by simp only[Ctx.at,Ctx.row];split;rename_i e;subst e;rw[V8]at hx;simp at hx;exact hx)
  (fun r o hk=>by simp only[Ctx.row,Ctx.at];rw[if_neg (bG r o _ hk (by simp))];exact hk) (fun _ _ _ h=>h) (fun _ _ hs=>hs.elim)
 refine⟨_,le,?_,⟨by simp,fun b x a _ d=>⟨iD a,?_⟩⟩,by simp[Ctx.at]⟩
 ·refine h.step (fun b'=>b'=H.length) vL le (fun _ _ hs=>hs.elim) (fun _ hm=>hm.elim) (fun r o hr=>?_) (fun b' x hx=>?_) (fun t e x hx=>by have:=h.iQ t e x hx;simp;omega) (fun b' _ iY=>?_) (fun r j b' iY=>?_) (fun _ _ _ _=>rfl) (fun b' x hx=>?_)
  ·simp at hr
   simp only[Ctx.row,Ctx.at];rw[if_neg (by omega)];exact h.fresh r o (by omega)
  ·simp only[Ctx.at,Ctx.row]at hx
   split at hx
   ·rename_i e;subst e;simp
   ·have:=h.rP b' x hx;simp;omega
  ·simp only[Ctx.at,Ctx.row];rw[if_neg iY]
  ·constructor<;>intro e<;>simp only[Ctx.row,Ctx.at]<;>rw[if_neg (bG r j _ e (by simp))]<;>exact e
  ·by_cases e:b'=H.length
   ·subst e
    rw[fq]at hx;cases hx
    exact .inr (pG _ _ le (by simp[Ctx.row,Ctx.at]) (by simp[Ctx.at]) (World.alloc_heap_new w _))
   ·exact .inl ⟨e,cT e hx⟩
 ·have:=(List.getElem?_eq_some_iff.1 a).1
  simp only[Ctx.at,Ctx.row];rw[if_neg (by omega)];exact d
theorem SR.freeze {b:Nat}{cs:List T}(h:SR w0 g H w)(hb:H[b]?=some (.cells cs))(hφ:∃x,g.φ b=some x) :
  ∃g',Le g w g' w∧SR w0 g' (H.set b .dead) w∧Fr g H g' (H.set b .dead)∧∀t v,VR g w t v→VR g' w (CM b cs t) v:=by
 let g':Ctx:={ g with κ:=fun r o=>if g.κ r o=.mut b then .lU else g.κ r o }
 have le:Le g w g' w:=⟨fun _ _ h=>h,fun r o e=>by simp only[g'];rw[e];simp,fun _ _ _ h=>h,fun _ _ _ _ h=>h,rfl⟩
 have kc:b<H.length:=(List.getElem?_eq_some_iff.1 hb).1
 have tr:Tr w w (fun _ _=>False) (fun _=>False):=⟨Nat.le_refl _,fun _ _ _ _=>rfl,fun _ _ _=>rfl,fun _ _ _ h=>h,fun _ _ _ _ h=>h,fun _ _ _ _=>rfl,fun r j hr=>dn hr,rfl,rfl⟩
 have sr:SR w0 g' (H.set b .dead) w:=by
  refine h.step (fun b'=>b'=b) tr le (fun _ _ h=>h.elim) (fun _ h=>h.elim) (fun r o hr=>?_) (fun b' x hx=>?_) (fun t e x hx=>?_) (fun _ _ _=>rfl) (fun r j b' bG=>⟨fun e=>?_,fun e=>?_⟩) (fun _ _ _ _=>rfl) (fun b' x hx=>?_)
  ·simp only[g'];rw[h.fresh r o hr];simp
  ·rw[List.length_set];exact h.rP b' x hx
  ·rw[List.length_set];exact h.iQ t e x hx
  ·simp only[g'];rw[e,if_neg (by simpa using bG)]
  ·simp only[g'];rw[e,if_neg (by simp)]
  ·rcases eo kc hx with⟨rfl,rfl⟩|⟨bG,jh⟩
   ·exact .inr trivial
   ·exact .inl ⟨bG,jh⟩
 have one:∀t v,VR g w t v→VR g' w (xN b cs t) v:=by
  intro t v hv
  cases t with
  | ax b' off len n =>
   simp only[xN]
   split
   ·rename_i hc
    obtain⟨rfl,hle⟩:=hc
    cases hv with
    | @ax _ _ _ _ r o q cap hp hc hq =>
     obtain⟨c1,c2,c3⟩:=h.dQ _ _ hb r o q hp
     have hlen:(rO cs off len n).length=len:=by simp[rO]
     have Wb:∀(i j:Nat) (c:List T) (t:T),(rO cs off len n)[i]?=some c→c[j]?=some t→j<n∧i<len∧cs[off+i*n+j]?=some t:=by
      intro i j c t hi hj
      have kM:i<len:=by have:=(List.getElem?_eq_some_iff.1 hi).1;rw[hlen]at this;exact this
      simp only[rO,List.getElem?_map,List.getElem?_range kM,Option.map_some,Option.some.injEq]at hi
      subst hi
      rw[List.getElem?_take]at hj
      split at hj
      ·rename_i x8
       rw[List.getElem?_drop]at hj
       exact⟨x8,kM,hj⟩
      ·cases hj
     have key:∀(i j:Nat) (c:List T) (t:T),(rO cs off len n)[i]?=some c→c[j]?=some t→t.one=true∧∃v,w.cell? ⟨r,o+off+i*n+j,none⟩=some v∧VR g w t v∧g.κ r (o+off+i*n+j)=.mut b':=by
      intro i j c t hi hj
      obtain⟨h1,h2,h3⟩:=Wb i j c t hi hj
      obtain⟨k1,v,k2,k3⟩:=c3 _ _ h3
      have iE:off+i*n+j<cs.length:=(List.getElem?_eq_some_iff.1 h3).1
      refine⟨k1,v,?_,k3,?_⟩
      ·rw[show o+off+i*n+j=o+(off+i*n+j) by omega];exact k2
      ·exact(c2 (o+off+i*n+j) (by omega) (by omega)).1
     have:=VR.sl (g:=g') (w:=w) (k:=.arg) (es:=rO cs off len n) (r:=r) (o:=o+off) (cap:=cap) (n:=n) (fun i j=>(w.cell? ⟨r,o+off+i*n+j,none⟩).getD undef) trivial (by rw[hlen];exact hc)
      (fun c iA=>by
       obtain⟨i,hi,rfl⟩:=List.mem_map.1 iA
       have hi:=List.mem_range.1 hi
       have:i*n+n≤len*n:=by rw[←Nat.succ_mul];exact Nat.mul_le_mul_right n hi
       rw[List.length_take,List.length_drop];omega)
      (fun i j c t hi hj=>by
       obtain⟨k1,v,k2,_,k4⟩:=key i j c t hi hj
       refine⟨k1,?_,by rw[k2];rfl⟩
       simp only[g'];rw[if_pos k4])
      (fun i j c t hi hj=>by
       obtain⟨_,v,k2,k3,_⟩:=key i j c t hi hj
       rw[k2];exact k3.mono le)
     rw[hlen]at this
     exact this
   ·exact hv.mono le
  | _=>exact hv.mono le
 refine⟨g',le,sr,⟨by simp,fun b' y a _ d=>⟨ft a (by rintro rfl;obtain⟨x,hx⟩:=hφ;rw[hx]at d;cases d),d⟩⟩,fun t v hv=>?_⟩
 cases t with
 | bF vs =>
  cases hv with
  | bF hl h2 =>
   refine .bF (by simpa using hl) fun i t v hi IP=>?_
   rw[List.getElem?_map,Option.map_eq_some_iff]at hi
   obtain⟨t',IQ,rfl⟩:=hi
   exact one _ _ (h2 i t' v IQ IP)
 | _=>exact one _ _ hv
end
def dw (P:Program)(f:FuncId):Bool :=
 match P.funcs[f]? with
 | some fn=>fn.name != "runtime.NumGoroutine"&&fn.body.isSome
 | none=>false
def bM (P:Program)(mu:Bool):Op→Option KG
 | .call { callee:=.value (.func f),args,.. }=>if dw P f then(fJ args.toList).map (.call f)else match zs P f,fJ args.toList with
  | some n,some [x,y]=>some (.b (.Po n x y))
  | _,_=>none
 | .call { callee:=.value (.tmp t),args,.. }=>(fJ args.toList).map (.bA (.r t))
 | op=>(bD P mu op).map .b
def sL (ops:Array Oper):Option (Nat×Bool)→Option Gd
 | none=>some none
 | some (j,b)=>match (ops[j]?).bind (·.dst)with
  | some d=>some (some (d,b))
  | none=>none
def dK:X→List Nat
 | .r t=>[t]
 | .c _=>[]
def oD:Option X→List Nat
 | some x=>dK x
 | none=>[]
def Dj:Bo→List Nat
 | .av x | .un _ x | .iX _ x | .AM x | .cvb x | .len _ x | .box x | .ld _ _ x | .jZ _ x | .P2 _ _ _ x | .ext _ x | .tQ x | .cap x | .L1 x | .pD x | .L3 x | .Pp _ _ x=>dK x
 | .bin _ x y | .mS _ _ x y | .beq _ x y | .eqs _ _ x y | .st _ x y | .eR _ x y | .L0 _ _ x y | .P3 x y | .UO _ _ _ x y | .mT _ _ _ x y | .del _ x y | .app _ _ _ x y | .VO _ _ _ x y | .mn x y | .mx x y | .AN _ x y | .Po _ x y | .P5 _ _ _ x y=>dK x++dK y
 | .pick x y z | .ze _ x y z=>dK x++dK y++dK z
 | .build _ ps=>ps.flatMap fun p=>dK p.2.2
 | .nY _ _ ps | .Pq _ _ ps=>ps.flatMap fun p=>dK p.2
 | .P4 x lo hi=>dK x++oD lo++oD hi
 | .gp _ x lo hi mx=>dK x++oD lo++oD hi++oD mx
 | .HD _ l=>l.flatMap dK
 | .alloc _ | .zd=>[]
def zy:KG→List Nat
 | .b b=>Dj b
 | .call _ as=>as.flatMap dK
 | .bA f as=>dK f++as.flatMap dK
def me:Gd→List Nat
 | some (t,_)=>[t]
 | none=>[]
def eZ (l:List Operand):List Nat:=l.filterMap fun | .tmp t=>some t|_=>none
def tmpsOf (o:Oper)(op:KG)(g:Gd):List Nat:=eZ o.op.operands.toList++(me g++zy op)
def fD (P:Program)(n:Nat)(ops:Array Oper)(mu:Bool)(o:Oper)(AO:List Rd):Option O :=
 match bM P mu o.op,sL ops o.guard with
 | some op,some g=>if (tmpsOf o op g).all (·<n)&&(o.dst.all (·<n))then some ⟨o.dst,op,g,AO⟩else none
 | _,_=>none
def fQ (P:Program)(n:Nat)(ops:Array Oper)(mu:Nat→Bool):List Nat→Option (List O)
 | []=>some []
 | i :: is=>match ops[i]? with
  | some o=>match fD P n ops (mu i) o [],fQ P n ops mu is with
   | some o,some l=>some (o :: l)
   | _,_=>none
  | none=>none
def cB (o:Oper):List Nat:=(o.after.toList.filter fun e=>Region.binds .any e).map (·.on)
def jE (acc:List Nat)(o:Oper):Nat:=(cB o).foldl (fun s j=>s ||| 2^j ||| acc.getD j 0) 0
def eG:List Oper→List Nat→List Nat
 | [],acc=>acc
 | o :: l,acc=>eG l (acc++[jE acc o])
inductive Kl where|pure|read|make|MA
 deriving DecidableEq
def qt:Bo→Kl
 | .av _ | .pick _ _ _ | .bin _ _ _ | .beq _ _ _ | .eqs _ _ _ _ | .un _ _ | .iX _ _ | .build _ _ | .nY _ _ _ | .jZ _ _ | .P2 _ _ _ _ | .eR _ _ _ | .L0 _ _ _ _ | .P3 _ _ | .UO _ _ _ _ _ | .P4 _ _ _ | .gp _ _ _ _ _
 | .HD _ _ | .ext _ _ | .mn _ _ | .mx _ _ | .tQ _=>.pure
 | .mS _ c _ _=>if c=.slice then .MA else .pure
 | .ld _ _ _ | .mT _ _ _ _ _ | .len _ _ | .AM _=>.read
 | .alloc _ | .zd=>.make
 | _=>.MA
def He (o:O):Kl:=match o.op with
 | .b b=>match o.d with|some _=>qt b|none=>.MA
 | _=>.MA
structure It where
 i:Nat
 o:O
 early:Bool
 ts:List Nat
def iR (b:Nat):List It→List Rd
 | []=>[]
 | y :: l=>match y.early,y.o.d,y.o.op with
  | true,some d,.b op=>if qt op=.read∧b.testBit y.i=false then⟨d,op,y.o.g⟩ :: iR b l else iR b l
  | _,_,_=>iR b l
def x9:Op→Bool
 | .alloc _ | .makeMap _ none=>true
 | _=>false
def Dk (b:Nat)(before:List It)(x:It)(oper:Oper):Bool :=
 ((cB oper).all fun j=>decide (j<x.i)&&before.any (·.i==j)) &&
 (before.all fun y=>y.early||b.testBit y.i) &&
 (before.all fun y=>y.i != x.i) &&
 (match x.o.d with
  | some d=>(before.all fun y=>y.o.d != some d&&(!y.ts.contains d||(!x.early&&b.testBit y.i)))&&!x.ts.contains d
  | none=>true) &&
 (before.all fun y=>match y.o.d with
  | some d=>!x.ts.contains d||b.testBit y.i
  | none=>true) &&
 (!x.early||(He x.o != .MA&&(He x.o != .make||x9 oper.op)))
def ya (P:Program)(n:Nat)(ops:Array Oper)(mu:Nat→Bool)(b:Nat)(before:List It)(x:Nat×Bool):Option It :=
 match ops[x.1]? with
 | some o=>match fD P n ops (mu x.1) o (if x.2 then []else iR b before)with
  | some o'=>let y:It:=⟨x.1,o',x.2,tmpsOf o o'.op o'.g⟩
   if Dk b before y o then some y else none
  | none=>none
 | none=>none
def dL (P:Program)(n:Nat)(ops:Array Oper)(mu:Nat→Bool)(bs:List Nat)(before:List It):List (Nat×Bool)→Option (List It)
 | []=>if (List.range ops.size).all fun i=>before.any (·.i==i)then some []else none
 | x :: l=>match ya P n ops mu (bs.getD x.1 0) before x with
  | some y=>(dL P n ops mu bs (before++[y]) l).map (y :: ·)
  | none=>none
structure An where
 mu:List (Nat×Nat)
 ord:List (Nat×List (Nat×Bool))
def bB (P:Program)(n:Nat)(an:An)(top:Bool):Code→Option C
 | .skip=>some .skip
 | .region id ops false=>(fQ P n ops (fun i=>an.mu.contains (id,i)) (List.range ops.size)).map .ops
 | .region id ops true=>match an.ord.find? (·.1==id)with
  | some (_,ord)=>(dL P n ops (fun i=>an.mu.contains (id,i)) (eG ops.toList []) [] ord).map fun jF=>.ops (jF.map (·.o))
  | none=>none
 | .seq a b=>match bB P n an top a,bB P n an top b with
  | some a,some b=>some (.seq a b)
  | _,_=>none
 | .cond c a b=>match aK c,bB P n an top a,bB P n an top b with
  | some x,some a,some b=>if (match c with | .tmp t=>decide (t<n)|_=>true)then some (.cond x a b)else none
  | _,_,_=>none
 | .block id a=>(bB P n an top a).map (.block id)
 | .loop a=>(bB P n an top a).map .loop
 | .exit id=>some (.exit id)
 | .ret=>some .ret
 | .rangeFunc g ps bZ body=>match aK g,bB P n an false bZ,bB P n an false body with
  | some x,some a,some b=>if top&&(dK x).all (·<n)&&ps.toList.all (·<n)then some (.cJ n x ps.toList a b)else none
  | _,_,_=>none
 | _=>none
def nr (P:Program):List ResultVar→Option (List Rs)
 | []=>some []
 | .tmp t :: l=>(nr P l).map (.t t :: ·)
 | .cell a t :: l=>match P.underlying t,P.info? t with
  | some d,some i=>(nr P l).map (.cl a (if dX d then i.size else 1) (dX d) :: ·)
  | _,_=>none
def Bj (n:Nat):Rs→Bool
 | .t r | .cl r _ _=>r<n
def aj (P:Program)(an:An)(f:FuncId):Option Fn :=
 match P.funcs[f]? with
 | some fn=>match fn.body,nr P fn.results.toList with
  | some c,some res=>match bB P fn.ntmps an true c with
   | some c=>if dw P f&&decide (fn.params.size+fn.nfree≤fn.ntmps)&&res.all (Bj fn.ntmps)then some ⟨fn.ntmps,fn.params.size+fn.nfree,res,c⟩else none
   | none=>none
  | _,_=>none
 | none=>none
section
variable {R R':ar} {H:af}
theorem cK {x:X}(h:∀t∈dK x,R t=R' t):x.ev R=x.ev R':=by
 cases x with
 | r t=>exact h t (by simp[dK])
 | c v=>rfl
theorem lz {x:Option X}{d:Nat}(h:∀t∈oD x,R t=R' t):gh R d x=gh R' d x:=by
 cases x with
 | none=>rfl
 | some x=>simp only[gh];rw[cK h]
theorem nu:∀(ps:List (Nat×Nat×X)),(∀t∈ps.flatMap (fun p=>dK p.2.2),R t=R' t)→fm R ps=fm R' ps
 | [],_=>rfl
 | (off,n,x) :: ps,h=>by
  simp only[fm]
  rw[cK (x:=x) (R':=R') (fun t ht=>h t (by simp[ht])),nu ps (fun t ht=>h t (by rw[List.flatMap_cons];exact List.mem_append_right _ ht))]
theorem o5 (n:Nat):∀(ps:List (Nat×X)) (es:List (List T)),(∀t∈ps.flatMap (fun p=>dK p.2),R t=R' t)→jd n es R ps=jd n es R' ps
 | [],_,_=>rfl
 | (i,x) :: ps,es,h=>by
  simp only[jd]
  rw[cK (x:=x) (R':=R') (fun t ht=>h t (by simp[ht]))]
  split
  ·split
   ·exact o5 n ps _ (fun t ht=>h t (by rw[List.flatMap_cons];exact List.mem_append_right _ ht))
   ·rfl
  ·rfl
theorem o6 (n:Nat):∀(ps:List (Nat×X)) (es:List (List T)),(∀t∈ps.flatMap (fun p=>dK p.2),R t=R' t)→je n es R ps=je n es R' ps
 | [],_,_=>rfl
 | (i,x) :: ps,es,h=>by
  simp only[je]
  rw[cK (x:=x) (R':=R') (fun t ht=>h t (by simp[ht]))]
  split
  ·split
   ·exact o6 n ps _ (fun t ht=>h t (by rw[List.flatMap_cons];exact List.mem_append_right _ ht))
   ·rfl
  ·rfl
theorem qu:∀(l:List X),(∀t∈l.flatMap dK,R t=R' t)→l.map (X.ev R)=l.map (X.ev R')
 | [],_=>rfl
 | x :: l,h=>by
  simp only[List.map_cons]
  rw[cK (x:=x) (R':=R') (fun t ht=>h t (by simp[ht])),qu l (fun t ht=>h t (by rw[List.flatMap_cons];exact List.mem_append_right _ ht))]
theorem qv {b:Bo}(h:∀t∈Dj b,R t=R' t):al R H b=al R' H b:=by
 cases b<;>simp only[Dj,List.mem_append]at h
 case build z ps=>simp only[al];rw[nu ps h]
 case nY n z ps=>simp only[al];rw[o5 _ ps _ h]
 case Pq n z ps=>simp only[al];rw[o6 _ ps _ h]
 case HD f l=>simp only[al,KI];rw[qu l h]
 case alloc=>rfl
 case zd=>rfl
 case P4 x lo hi =>
  have h1:=cK (x:=x) (R:=R) (R':=R') (fun t ht=>h t (.inl (.inl ht)))
  have h2:=fun d=>lz (x:=lo) (d:=d) (R:=R) (R':=R') (fun t ht=>h t (.inl (.inr ht)))
  have h3:=fun d=>lz (x:=hi) (d:=d) (R:=R) (R':=R') (fun t ht=>h t (.inr ht))
  simp only[al,h1,h2,h3]
 case gp n x lo hi mx =>
  have hm:∀m,mx=some m→m.ev R=m.ev R':=fun m e=>cK (fun t ht=>h t (.inr (by subst e;exact ht)))
  have h1:=cK (x:=x) (R:=R) (R':=R') (fun t ht=>h t (.inl (.inl (.inl ht))))
  have h2:=fun d=>lz (x:=lo) (d:=d) (R:=R) (R':=R') (fun t ht=>h t (.inl (.inl (.inr ht))))
  have h3:=fun d=>lz (x:=hi) (d:=d) (R:=R) (R':=R') (fun t ht=>h t (.inl (.inr ht)))
  simp only[al,h1,h2,h3]
  cases mx with
  | none =>
   cases x.ev R' with
   | sl k es=>dsimp only;cases gh R' 0 lo with
    | none=>rfl
    | some l=>cases gh R' es.length hi<;>rfl
   | ax b off len n'=>rfl
   | _=>rfl
  | some m =>
   cases x.ev R' with
   | sl k es=>dsimp only;cases gh R' 0 lo with
    | none=>rfl
    | some l=>cases gh R' es.length hi with
     | none=>rfl
     | some h=>dsimp only;rw[hm m rfl]
   | ax b off len n'=>rfl
   | _=>rfl
 all_goals first
  | (simp only[al,cK h];done)
  | (rename_i x;simp only[al];rw[cK (x:=x) (R':=R') h])
  | (rename_i x y;simp only[al];rw[cK (x:=x) (R':=R') (fun t ht=>h t (.inl ht)),cK (x:=y) (R':=R') (fun t ht=>h t (.inr ht))])
  | (rename_i x y z;simp only[al];rw[cK (x:=x) (R':=R') (fun t ht=>h t (.inl (.inl ht))),cK (x:=y) (R':=R') (fun t ht=>h t (.inl (.inr ht))),cK (x:=z) (R':=R') (fun t ht=>h t (.inr ht))])
theorem kO {g:Gd}(h:∀t∈me g,R t=R' t):bL R g=bL R' g:=by
 cases g with
 | none=>rfl
 | some p=>obtain⟨t,b⟩:=p;simp only[bL];rw[h t (by simp[me])]
theorem vS {b:Bo}(hk:qt b=.pure)(H2:af):al R H2 b=(al R H b).map fun p=>(p.1,H2):=by
 cases b<;>simp only[qt]at hk<;>(try (cases hk;done))<;>simp only[al]
 case gp n x lo hi mx =>
  cases x.ev R with
  | sl k es =>
   dsimp only
   cases gh R 0 lo with
   | none=>rfl
   | some l=>cases gh R es.length hi with
    | none=>rfl
    | some h=>cases mx with
     | none=>dsimp only;split<;>rfl
     | some m=>dsimp only;cases cq (m.ev R)with
      | none=>rfl
      | some m=>dsimp only;split<;>rfl
  | ax b off len n' =>
   dsimp only
   cases gh R 0 lo with
   | none=>rfl
   | some l=>cases gh R len hi with
    | none=>rfl
    | some h=>cases mx with
     | none=>dsimp only;split<;>rfl
     | some m=>rfl
  | dS b off len n' c =>
   dsimp only
   cases gh R 0 lo with
   | none=>rfl
   | some l=>cases gh R len hi with
    | none=>rfl
    | some h=>cases mx with
     | none=>dsimp only;split<;>rfl
     | some m=>rfl
  | _=>rfl
 all_goals (try rfl)
 all_goals (try (simp[Option.map_map,Function.comp_def];done))
 all_goals (try (simp[Option.map_map,Option.map_bind,Function.comp_def];done))
 all_goals (repeat' split)
 all_goals (try (simp_all [Option.map_map,Function.comp_def];done))
theorem sM {b:Bo}{v:T}{H':af}(hk:qt b=.pure)(h:al R H b=some (v,H')):H'=H∧∀H2,al R H2 b=some (v,H2):=by
 constructor
 ·have h1:=vS (R:=R) (H:=H) hk H
  rw[h]at h1;simp at h1;exact h1
 ·intro H2;rw[vS (H:=H) hk H2,h];rfl
theorem lA {l:af}{b:Nat}{x:B}(h:H[b]?=some x):(H++l)[b]?=some x:=by
 rw[List.getElem?_append_left (List.getElem?_eq_some_iff.1 h).1];exact h
theorem IS {n:Nat}{t:T}{cs:List T}(l:af)(h:nZ H n t=some cs):nZ (H++l) n t=some cs:=by
 unfold nZ at *
 cases t<;>simp only[]at h ⊢<;>try (first|exact h|cases h)
 rename_i b off
 cases hb:H[b]? with
 | none=>simp[hb]at h
 | some x=>rw[hb]at h;rw[lA hb];exact h
theorem Bl {t:T}{es:List (T×T)}(l:af)(h:gq H t=some es):gq (H++l) t=some es:=by
 unfold gq at *
 cases t<;>simp only[]at h ⊢<;>try (first|exact h|cases h)
 rename_i b
 cases hb:H[b]? with
 | none=>simp[hb]at h
 | some x=>rw[hb]at h;rw[lA hb];exact h
theorem Dl {t:T}{k:Lc}{n:Nat}(l:af)(h:jf H k t=some n):jf (H++l) k t=some n:=by
 unfold jf at *
 cases k<;>cases t<;>simp only[]at h ⊢<;>try (first|exact h|cases h)
 rename_i b
 cases hb:H[b]? with
 | none=>simp[hb]at h
 | some x=>rw[hb]at h;rw[lA hb];exact h
theorem vT {t:T}{n:Nat}{es:List (List T)}(l:af)(h:bK H n t=some es):bK (H++l) n t=some es:=by
 unfold bK at *
 cases t<;>simp only[]at h ⊢<;>try (first|exact h|cases h)
 rename_i b off len n'
 cases hb:H[b]? with
 | none=>simp[hb]at h
 | some x=>rw[hb]at h;rw[lA hb];exact h
theorem sN {b:Bo}{v:T}{H':af}(hk:qt b=.read)(h:al R H b=some (v,H')):H'=H∧∀l,al R (H++l) b=some (v,H++l):=by
 cases b<;>simp only[qt]at hk<;>(try (cases hk;done))<;>simp only[al]at h ⊢
 case mS=>split at hk<;>cases hk
 case AM x =>
  cases he:bK H 1 (x.ev R)with
  | none=>simp[he]at h
  | some es =>
   rw[he]at h
   refine⟨?_,fun l=>?_⟩
   ·dsimp only at h;split at h
    ·cases h
    ·simp only[Option.map_eq_some_iff,Prod.mk.injEq]at h;obtain⟨_,_,_,e⟩:=h;exact e.symm
   ·rw[vT l he]
    dsimp only at h ⊢;split at h
    ·cases h
    ·simp only[Option.map_eq_some_iff,Prod.mk.injEq]at h ⊢
     obtain⟨a,h1,h2,_⟩:=h
     rename_i bG
     exact⟨a,h1,h2,trivial⟩
 case len k x =>
  simp only[Option.map_eq_some_iff,Prod.mk.injEq]at h ⊢
  obtain⟨a,h1,h2,h3⟩:=h
  exact⟨h3.symm,fun l=>⟨a,Dl l h1,h2,trivial⟩⟩
 case ld n ag x =>
  cases he:nZ H n (x.ev R)with
  | none=>simp[he]at h
  | some cs =>
   simp only[he,Option.map_eq_some_iff,Prod.mk.injEq]at h
   obtain⟨a,h1,h2,h3⟩:=h
   exact⟨h3.symm,fun l=>by simp[IS l he,h1,h2]⟩
 case mT kt z ok m k =>
  split at h
  ·rename_i hh
   simp only[hh,if_true]
   cases he:gq H (m.ev R)with
   | none=>simp[he]at h
   | some es =>
    simp only[he]at h
    simp only[Bl _ he]
    split at h
    ·split at h
     ·cases h;exact⟨rfl,fun l=>rfl⟩
     ·cases h
    ·cases h;exact⟨rfl,fun l=>rfl⟩
    ·cases h
  ·cases h
end
theorem vU:∀(l:List Oper) (acc:List Nat),∃rest,eG l acc=acc++rest∧rest.length=l.length
 | [],acc=>⟨[],by simp[eG],rfl⟩
 | o :: l,acc=>by
  obtain⟨r,h,hl⟩:=vU l (acc++[jE acc o])
  exact⟨jE acc o :: r,by simp[eG,h],by simp[hl]⟩
theorem vV:∀(l:List Oper) (acc:List Nat) (k:Nat) (o:Oper),l[k]?=some o→(eG l acc)[acc.length+k]?=some (jE ((eG l acc).take (acc.length+k)) o)
 | [],_,_,_,h=>by simp at h
 | x :: l,acc,0,o,h=>by
  simp at h;subst h
  obtain⟨r,h,_⟩:=vU l (acc++[jE acc x])
  simp[eG,h]
 | x :: l,acc,k+1,o,h=>by
  have:=vV l (acc++[jE acc x]) k o (by simpa using h)
  simp only[List.length_append,List.length_singleton]at this
  simp only[eG]
  rw[show acc.length+(k+1)=acc.length+1+k by omega]
  exact this
theorem sO (acc:List Nat)(t:Nat):∀(l:List Nat) (s:Nat),(l.foldl (fun s j=>s ||| 2^j ||| acc.getD j 0) s).testBit t=true→s.testBit t=true∨∃j∈l,t=j∨(acc.getD j 0).testBit t=true
 | [],s,h=>.inl h
 | x :: l,s,h=>by
  rcases sO acc t l _ h with h|⟨j,hj,h⟩
  ·simp only[Nat.testBit_or,Bool.or_eq_true,Nat.testBit_two_pow,decide_eq_true_eq]at h
   rcases h with(h|h)|h
   ·exact .inl h
   ·exact .inr ⟨x,by simp,.inl h.symm⟩
   ·exact .inr ⟨x,by simp,.inr h⟩
  ·exact .inr ⟨j,by simp[hj],h⟩
theorem vW {acc:List Nat}{o:Oper}{t:Nat}(h:(jE acc o).testBit t=true):∃j∈cB o,t=j∨(acc.getD j 0).testBit t=true:=by
 rcases sO acc t _ _ h with h|h
 ·simp at h
 ·exact h
theorem vX {ops:Array Oper}{D:Nat→Prop}(hD:∀i o,ops[i]?=some o→D i→∀j∈cB o,j<i∧D j) :
  ∀(i:Nat) (o:Oper) (t:Nat),ops[i]?=some o→(∀j∈cB o,j<i∧D j)→((eG ops.toList []).getD i 0).testBit t=true→D t:=by
 intro i
 induction i using Nat.strongRecOn with
 | _ i ih =>
  intro o t ho hp hb
  have h1:=vV ops.toList [] i o (by simpa using ho)
  simp only[List.length_nil,Nat.zero_add]at h1
  rw[List.getD_eq_getElem?_getD,h1,Option.getD_some]at hb
  obtain⟨j,hj,h⟩:=vW hb
  obtain⟨au,hDj⟩:=hp j hj
  rcases h with rfl|h
  ·exact hDj
  ·rw[List.getD_eq_getElem?_getD,List.getElem?_take,if_pos au,←List.getD_eq_getElem?_getD]at h
   have kM:i<ops.size:=(Array.getElem?_eq_some_iff.1 ho).1
   have hoj:ops[j]?=some ops[j]:=Array.getElem?_eq_getElem (Nat.lt_trans au kM)
   exact ih j au ops[j] t hoj (fun k hk=>hD j _ hoj hDj k hk) h
def Fw (r:Option Nat):Fence:={ fn:=fun _=>True,depth:=none,alive:=false,round:=r }
theorem vY {r r':Option Nat}{n:Nat}{P:Program}{f:FuncId}{args:Array Value}{w:World}{K:Ending→World→Prop}(h:CallsIn (Fw r) n P f args w K):CallsIn (Fw r') n P f args w K:=h
section
variable {P:Program} {w0 w:World} {g:Ctx} {H H':af} {R:ar} {a:Act} {n:Nat} {ops:Array Oper}
theorem bq {mu:Bool}{o:Oper}{st:List Rd}{y:O}(h:fD P n ops mu o st=some y):∃op gd,bM P mu o.op=some op∧sL ops o.guard=some gd∧y=⟨o.dst,op,gd,st⟩ ∧
  (∀t∈tmpsOf o op gd,t<n)∧∀d,o.dst=some d→d<n:=by
 unfold fD at h
 cases h1:bM P mu o.op with
 | none=>simp[h1]at h
 | some op=>cases h2:sL ops o.guard with
  | none=>simp[h1,h2]at h
  | some gd =>
   simp only[h1,h2]at h
   split at h
   ·rename_i hh
    simp only[Bool.and_eq_true,List.all_eq_true,decide_eq_true_eq]at hh
    exact⟨op,gd,rfl,rfl,(Option.some.inj h).symm,hh.1,fun d hd=>by have:=hh.2;simp[hd]at this;exact this⟩
   ·cases h
def gA (g:Ctx)(w:World)(R:ar)(a:Act)(ts:List Nat):Prop:=∀t∈ts,VR g w (R t) (a.tmps.getD t undef)
theorem gA.sub {ts L7:List Nat}(h:gA g w R a ts)(hs:∀t∈L7,t∈ts):gA g w R a L7:=fun t ht=>h t (hs t ht)
theorem sP {l:List Operand}(h:gA g w R a (eZ l)):RV g w R a.eval l:=by
 intro x hx y hy
 cases x with
 | tmp t=>simp only[aK,Option.some.injEq]at hy;subst hy;exact h t (by simp only[eZ,List.mem_filterMap];exact⟨_,hx,rfl⟩)
 | const v =>
  simp only[aK,Option.map_eq_some_iff]at hy
  obtain⟨t,h1,rfl⟩:=hy
  exact lr h1
 | «global» x=>simp[aK]at hy
 | func f=>simp only[aK,Option.some.injEq]at hy;subst hy;exact .fn rfl (by simp)
theorem oE {o:Oper}{gd:Gd}(hg:sL ops o.guard=some gd)(hn:a.tmps.size=n)(hd:∀t∈me gd,t<n)(h:gA g w R a (me gd)):Region.wanted o (yielded ops a.tmps)=bL R gd:=by
 unfold Region.wanted
 cases ho:o.guard with
 | none=>rw[ho]at hg;simp only[sL,Option.some.injEq]at hg;subst hg;rfl
 | some p =>
  obtain⟨j,b⟩:=p
  rw[ho]at hg
  simp only[sL]at hg
  cases gB:(ops[j]?).bind (·.dst)with
  | none=>simp[gB]at hg
  | some d =>
   simp only[gB,Option.some.injEq]at hg;subst hg
   have hv:=h d (by simp[me])
   have au:d<a.tmps.size:=by rw[hn];exact hd d (by simp[me])
   simp only[yielded,gB,Option.bind_some,bL]
   rw[Array.getD_eq_getD_getElem?,Array.getElem?_eq_getElem au,Option.getD_some]at hv
   rw[Array.getElem?_eq_getElem au]
   generalize R d=t at *
   generalize a.tmps[d]=v at *
   cases hv<;>simp
theorem gI {mu:Bool}{o:Op}{op:KG}(h:bM P mu o=some op):∀c,o≠.defer c:=by
 rintro c rfl;simp[bM,bD]at h
theorem jl {mu:Bool}{o:Op}{b:Bo}(h:bM P mu o=some (.b b)):bD P mu o=some b:=by
 unfold bM at h
 split at h
 ·split at h
  ·simp only[Option.map_eq_some_iff]at h;obtain⟨_,_,h⟩:=h;cases h
  ·split at h
   ·rename_i h1 h2
    cases h
    simp only[bD,h1,h2]
   ·cases h
 ·simp only[Option.map_eq_some_iff]at h;obtain⟨_,_,h⟩:=h;cases h
 ·simp only[Option.map_eq_some_iff]at h;obtain⟨x,h1,h⟩:=h;cases h;exact h1
theorem Dm {r:Option Nat}{mu:Bool}{o:Oper}{b:Bo}{t:T}(hc:bM P mu o.op=some (.b b))(h:SR w0 g H w)(hr:gA g w R a (eZ o.op.operands.toList))(he:al R H b=some (t,H')) :
  ∃v w' g',(∀(K:Act→World→Prop) (Q:Exit→Act→World→Prop),K (a.put o.dst v) w'→o.wpIn (Fw r) 0 P a w K Q)∧Le g w g' w'∧SR w0 g' H' w'∧VR g' w' t v∧Fr g H g' H':=by
 obtain⟨nx,v,w',g',h1,h2,h3⟩:=Mz (fun _=>rfl) (jl hc) h (sP hr) he
 refine⟨v,w',g',fun K Q hk=>⟨fun _ _=>trivial,?_⟩,h3⟩
 rw[Oper.semAt_eq _ _ _ (gI hc),h1]
 rcases h2 with rfl|⟨rfl,rfl⟩
 ·exact hk
 ·exact hk
theorem yc {mu:Bool}{o:Op}{x:X}(h:bD P mu o=some (.pD x)):∃it,o=.next it false∧aK it=some x:=by
 cases o
 case next it str =>
  cases str<;>simp only[bD]at h<;>(try (cases h;done))
  simp only[Option.map_eq_some_iff,Bo.pD.injEq]at h
  obtain⟨y,h1,rfl⟩:=h
  exact⟨it,rfl,h1⟩
 case range ty m =>
  simp only[bD]at h
  split at h
  ·simp only[Option.map_eq_some_iff]at h;obtain⟨_,_,h⟩:=h;cases h
  ·cases h
 case makeMap ty r =>
  cases r<;>simp only[bD]at h<;>cases h
 case makeFunc fn first ku =>
  cases fn<;>simp only[bD]at h<;>(try (cases h;done))
  split at h
  ·simp only[Option.map_eq_some_iff]at h;obtain⟨_,_,h⟩:=h;cases h
  ·cases h
 case call c =>
  obtain⟨callee,args,iB⟩:=c
  cases callee
  case value x =>
   cases x<;>simp only[bD]at h<;>(try (cases h;done))
   split at h<;>cases h
  case builtin b =>
   simp only[bD,Option.bind_eq_some_iff]at h
   obtain⟨l,_,h⟩:=h
   unfold jk at h
   split at h
   ·have hz:∀tl l b',vP P tl l=some b'→b'≠.pD x:=by
     rintro tl l b' hb rfl
     simp only[vP]at hb
     (repeat' split at hb)<;>first|(cases hb;done)|(simp at hb;done)
    split at h
    ·rename_i b' hb;exact absurd (Option.some.inj h) (hz _ _ _ hb)
    ·simp only[lx]at h
     (repeat' split at h)<;>first|(cases h;done)|(simp at h;done)
   all_goals ((repeat' split at h)<;>first|(cases h;done)|(simp at h;done))
  all_goals (simp only[bD]at h;cases h)
 all_goals simp only[bD]at h
 all_goals first|(cases h;done)|(simp only[Option.map_eq_some_iff]at h;obtain⟨_,_,h⟩:=h;cases h;done)|skip
 all_goals (try simp only[Option.bind_eq_some_iff]at h)
 all_goals (try (obtain⟨_,_,h⟩:=h))
 all_goals (try simp only[De,sH,sG,mC,xZ,ou,ov,Bf,Bg,x0]at h)
 all_goals first|((repeat' split at h)<;>first|(cases h;done)|(simp at h;done))|skip
theorem Dn {r:Option Nat}{mu:Bool}{o:Oper}{x:X}{b bi:Nat}{es:List (T×T)}{ix:List Nat}{cur:Option Nat}(hc:bM P mu o.op=some (.b (.pD x)))(h:SR w0 g H w)(hr:gA g w R a (eZ o.op.operands.toList))
  (hx:x.ev R=.ptr bi 0) (hb:H[b]?=some (.cQ es ix bi cur)) :
  ∃t H' v w' g',m5 H b bi es ix t H'∧(∀(K:Act→World→Prop) (Q:Exit→Act→World→Prop),K (a.put o.dst v) w'→o.wpIn (Fw r) 0 P a w K Q)∧Le g w g' w'∧SR w0 g' H' w'∧VR g' w' t v∧Fr g H g' H':=by
 have fB:=gI hc
 obtain⟨it,ho,h1⟩:=yc (jl hc)
 have hv:=sP hr it (by rw[ho];simp[Op.operands]) x h1
 rw[hx]at hv
 obtain⟨t,H',hn,v,w',g',cw,h3⟩:=IA (P:=P) (ty:=o.type) h hv hb
 refine⟨t,H',v,w',g',hn,fun K Q hk=>⟨fun _ _=>trivial,?_⟩,h3⟩
 rw[Oper.semAt_eq _ _ _ fB]
 have e:(execOp a.eval o).run P w=.ok (.value v) w':=by
  obtain⟨dst,op,ty,pos,after,guard⟩:=o
  simp only at ho;subst ho
  simp[execOp,cw]
 rw[e]
 exact hk
theorem jG {f:FuncId}{args:Array Value}(hf:dw P f=true):(callFunc f args).run P w=.ok (.enter f args) w:=by
 unfold dw at hf
 cases h:P.funcs[f]? with
 | none=>simp[h]at hf
 | some fn =>
  simp only[h,Bool.and_eq_true,bne_iff_ne,ne_eq]at hf
  obtain⟨c,hb⟩:=Option.isSome_iff_exists.1 hf.2
  simp[callFunc,h,hf.1,hb]
def yd (r:Option Nat)(P:Program)(o:Oper)(a:Act)(K:Act→World→Prop):Ending→World→Prop:=fun e w'=>∃v,e=.returned v∧K (a.put o.dst v) w'
theorem upon_enter {r:Option Nat}{o:Oper}{f:FuncId}{args:Array Value}{K:Act→World→Prop}{Q:Exit→Act→World→Prop}(h:CallsIn (Fw none) 0 P f args w (yd r P o a K)) :
  o.uponIn (Fw r) 0 P a K Q (.ok (.enter f args) w):=by
 rw[Oper.uponIn_enter]
 refine⟨fun h=>by simp[Fw]at h,(vY h).mono fun e w' he=>?_⟩
 obtain⟨v,rfl,hk⟩:=he
 exact hk
theorem um {mu:Bool}{op:Op}{f:Nat}{as:List X}(h:bM P mu op=some (.call f as)) :
  ∃args iB,op=.call { callee:=.value (.func f),args:=args,argTypes:=iB }∧dw P f=true∧fJ args.toList=some as:=by
 cases op
 case call c =>
  obtain⟨callee,args,iB⟩:=c
  cases callee
  case value x =>
   cases x
   case func f' =>
    simp only[bM]at h
    split at h
    ·rename_i hc
     simp only[Option.map_eq_some_iff]at h
     obtain⟨PE,h1,h2⟩:=h
     cases h2
     exact⟨args,iB,rfl,hc,h1⟩
    ·split at h<;>cases h
   all_goals simp[bM,bD]at h
  all_goals (simp only[bM,Option.map_eq_some_iff]at h;obtain⟨_,_,h⟩:=h;cases h)
 all_goals (simp only[bM,Option.map_eq_some_iff]at h;obtain⟨_,_,h⟩:=h;cases h)
theorem mg {mu:Bool}{op:Op}{x:X}{as:List X}(h:bM P mu op=some (.bA x as)) :
  ∃t args iB,x=.r t∧op=.call { callee:=.value (.tmp t),args:=args,argTypes:=iB }∧fJ args.toList=some as:=by
 cases op
 case call c =>
  obtain⟨callee,args,iB⟩:=c
  cases callee
  case value x =>
   cases x
   case tmp t =>
    simp only[bM,Option.map_eq_some_iff]at h
    obtain⟨PE,h1,h2⟩:=h
    cases h2
    exact⟨t,args,iB,rfl,rfl,h1⟩
   case func f' =>
    simp only[bM]at h
    split at h
    ·simp only[Option.map_eq_some_iff]at h
     obtain⟨PE,h1,h2⟩:=h
     cases h2
    ·split at h<;>cases h
   all_goals simp[bM,bD]at h
  all_goals (simp only[bM,Option.map_eq_some_iff]at h;obtain⟨_,_,h⟩:=h;cases h)
 all_goals (simp only[bM,Option.map_eq_some_iff]at h;obtain⟨_,_,h⟩:=h;cases h)
theorem Bm {r:Option Nat}{mu:Bool}{o:Oper}{f:Nat}{as:List X}(hc:bM P mu o.op=some (.call f as))(hr:gA g w R a (eZ o.op.operands.toList)) :
  ∃args:List Value,bC g w (as.map (X.ev R)) args ∧
   ∀(K:Act→World→Prop) (Q:Exit→Act→World→Prop),dw P f=true→CallsIn (Fw none) 0 P f args.toArray w (yd r P o a K)→o.wpIn (Fw r) 0 P a w K Q:=by
 have fB:=gI hc
 obtain⟨args,iB,ho,jH,h1⟩:=um hc
 have hv:=fK (ρ:=a.eval) args.toList as h1 (sP (hr.sub fun t ht=>by
  simp only[eZ,List.mem_filterMap]at ht ⊢
  obtain⟨x,hx,e⟩:=ht
  exact⟨x,by rw[ho];simp only[Op.operands,Call.operands];simp at hx;simp[hx],e⟩))
 refine⟨args.toList.map a.eval,hv,fun K Q _ hk=>⟨fun _ _=>trivial,?_⟩⟩
 rw[Oper.semAt_eq _ _ _ fB]
 have cw:(execOp a.eval o).run P w=.ok (.enter f (args.toList.map a.eval).toArray) w:=by
  have:=jG (P:=P) (w:=w) (args:=(args.toList.map a.eval).toArray) jH
  have e2:(args.toList.map a.eval).toArray=args.map a.eval:=by rw[←Array.toList_map]
  rw[e2]at this ⊢
  simp only[execOp,ho,resolve,Act.eval,Deferred.ofValue,invoke]
  simpa using this
 rw[cw]
 exact upon_enter hk
theorem ye {r:Option Nat}{mu:Bool}{o:Oper}{x:X}{f:Nat}{cs:List T}{as:List X}(hc:bM P mu o.op=some (.bA x as))(hr:gA g w R a (eZ o.op.operands.toList))(hx:x.ev R=.fn f cs) :
  ∃args:List Value,bC g w (as.map (X.ev R)++cs) args ∧
   ∀(K:Act→World→Prop) (Q:Exit→Act→World→Prop),dw P f=true→CallsIn (Fw none) 0 P f args.toArray w (yd r P o a K)→o.wpIn (Fw r) 0 P a w K Q:=by
 have fB:=gI hc
 obtain⟨t,args,iB,rfl,ho,h1⟩:=mg hc
 have hv:=fK (ρ:=a.eval) args.toList as h1 (sP (hr.sub fun t ht=>by
  simp only[eZ,List.mem_filterMap]at ht ⊢
  obtain⟨x,hx,e⟩:=ht
  exact⟨x,by rw[ho];simp only[Op.operands,Call.operands];simp at hx;simp[hx],e⟩))
 have hf:=hr t (by rw[ho];simp only[eZ,List.mem_filterMap];exact⟨.tmp t,by simp[Op.operands,Call.operands],rfl⟩)
 simp only[X.ev]at hx
 rw[hx]at hf
 generalize IP:a.tmps.getD t undef=vf at hf
 cases hf with
 | @fn _ _ vs hl uc =>
  refine⟨args.toList.map a.eval++vs.toList,hv.append ⟨by simp[hl],fun i t v ha hb=>uc i t v ha (by simpa using hb)⟩,fun K Q jH hk=>⟨fun _ _=>trivial,?_⟩⟩
  rw[Oper.semAt_eq _ _ _ fB]
  have cw:(execOp a.eval o).run P w=.ok (.enter f (args.toList.map a.eval++vs.toList).toArray) w:=by
   have:=jG (P:=P) (w:=w) (args:=(args.toList.map a.eval++vs.toList).toArray) jH
   have e2:(args.toList.map a.eval++vs.toList).toArray=args.map a.eval++vs:=by rw[←Array.toList_map];simp
   rw[e2]at this ⊢
   have e:a.eval (.tmp t)=.func (.func f) #[] vs:=IP
   simp only[execOp,ho,resolve,e,Deferred.ofValue,invoke]
   simpa using this
  rw[cw]
  exact upon_enter hk
end
def mh:T→Option Nat
 | .ptr b _ | .map b=>some b
 | _=>none
def jI (R:ar)(y:It):Option Nat:=match y.o.d,y.o.op with
 | some d,.b (.alloc _)=>mh (R d)
 | some d,.b .zd=>mh (R d)
 | _,_=>none
def rW (g:Ctx)(N:Nat)(R:ar)(H:af)(y:It):Prop :=
 (bL R y.o.g=false∧∀d,y.o.d=some d→R d=bX) ∨
 (bL R y.o.g=true∧∃d b,y.o.d=some d∧y.o.op=.b b∧(
  ((qt b=.pure∨qt b=.read)∧al R H b=some (R d,H)) ∨
  (∃k z,b=.alloc z∧R d=.ptr k 0∧H[k]?=some (.cells z)∧g.φ k=none∧N≤k) ∨
  (∃k,b=.zd∧R d=.map k∧H[k]?=some (.map [])∧g.φ k=none∧N≤k)))
theorem rW.mono {g g':Ctx}{N:Nat}{R R':ar}{H H':af}{y:It}(h:rW g N R H y)(hg:∀t∈me y.o.g,R' t=R t)(hr:∀t∈zy y.o.op,R' t=R t)(hd:∀d,y.o.d=some d→R' d=R d)
  (QC:∀d b,bL R y.o.g=true→y.o.d=some d→y.o.op=.b b→qt b=.read→al R H b=some (R d,H)→al R H' b=some (R d,H'))
  (vo:∀k x,jI R y=some k→H[k]?=some x→(∀e,x≠.tok e)→g.φ k=none→N≤k→H'[k]?=some x∧g'.φ k=none):rW g' N R' H' y:=by
 have hw:bL R' y.o.g=bL R y.o.g:=kO hg
 rcases h with⟨h1,h2⟩|⟨h1,d,b,h2,h3,h4⟩
 ·exact .inl ⟨hw▸h1,fun d e=>by rw[hd d e];exact h2 d e⟩
 ·refine .inr ⟨hw▸h1,d,b,h2,h3,?_⟩
  rw[hd d h2]
  rw[h3]at hr
  rcases h4 with⟨hk,he⟩|⟨k,z,rfl,e1,e2,e3,e4⟩|⟨k,rfl,e1,e2,e3,e4⟩
  ·refine .inl ⟨hk,?_⟩
   rw[qv (R:=R') (R':=R) hr]
   rcases hk with hk|hk
   ·exact(sM hk he).2 H'
   ·exact QC d b h1 h2 h3 hk he
  ·have hm:=vo k _ (by simp[jI,h2,h3,e1,mh]) e2 (by simp) e3 e4
   exact .inr (.inl ⟨k,z,rfl,e1,hm.1,hm.2,e4⟩)
  ·have hm:=vo k _ (by simp[jI,h2,h3,e1,mh]) e2 (by simp) e3 e4
   exact .inr (.inr ⟨k,rfl,e1,hm.1,hm.2,e4⟩)
theorem qw (a:Act)(d:Option Nat)(v:Value)(t:Nat)(hd:∀e,d=some e→e<a.tmps.size):(a.put d v).tmps.getD t undef=if d=some t then v else a.tmps.getD t undef:=by
 cases d with
 | none=>simp[Act.put]
 | some d =>
  have au:=hd d rfl
  simp only[Act.put]
  by_cases e:d=t
  ·subst e;simp[Array.getD_eq_getD_getElem?,au]
  ·rw[if_neg (by simpa using e),Array.getD_eq_getD_getElem?,Array.getD_eq_getD_getElem?,Array.getElem?_setIfInBounds_ne e]
theorem qx (a:Act)(d:Option Nat)(v:Value):(a.put d v).tmps.size=a.tmps.size:=by cases d<;>simp[Act.put]
theorem iS (a:Act)(d:Option Nat)(v:Value):(a.put d v).defers=a.defers:=by cases d<;>simp[Act.put]
theorem cC {R:ar}{d:Option Nat}{v:T}{t:Nat}(h:d≠some t):bu R d v t=R t:=by
 cases d with
 | none=>rfl
 | some d=>simp only[bu,nX];rw[if_neg];rintro rfl;exact h rfl
theorem iG {R:ar}{v:T}{t:Nat}:bu R (some t) v t=v:=by simp[bu,nX]
theorem SR.Wc {w0 w:World}{g:Ctx}{H:af}(h:SR w0 g H w){x:B}(hx:(∃cs,x=.cells cs)∨∃es,x=.map es):SR w0 g (H++[x]) w:=by
 refine⟨h.size,h.jz,h.AZ,h.fresh,fun b y hy=>by have:=h.rP b y hy;simp;omega,fun t e y hy=>by have:=h.iQ t e y hy;simp;omega,fun b y hy=>?_,h.pE,h.env⟩
 by_cases hb:b=H.length
 ·subst hb
  rw[fq]at hy
  have hn:=h.HX (b:=H.length) (Nat.le_refl _)
  cases hy
  rcases hx with⟨cs,rfl⟩|⟨es,rfl⟩<;>intro r o q hq<;>rw[hn]at hq<;>cases hq
 ·exact h.dQ b y (cT hb hy)
theorem SR.drew {w0 w w':World}{g:Ctx}{H:af}(h:SR w0 g H w)(tr:Tr w w' gu iC)(hz:w'.heap.size=w.heap.size):SR w0 g H w'∧Le g w g w':=by
 have le:Le g w g w':=Le.gO tr (fun _ _ h=>h) (fun _ _ h=>h) (fun _ _ _ h=>h) (fun _ _ hs=>hs.elim)
 refine⟨?_,le⟩
 exact h.step (fun _=>False) tr le (fun _ _ hs=>hs.elim) (fun _ hm=>hm.elim) (fun r o hr=>h.fresh r o (by omega)) h.rP h.iQ (fun _ _ _=>rfl) (fun _ _ _ _=>⟨id,id⟩) (fun _ _ _ _=>rfl) (fun b x hx=>.inl ⟨id,hx⟩)
section
variable {P:Program} {w0 w:World} {g:Ctx} {H:af} {a:Act}
theorem vZ {r:Option Nat}{mu:Bool}{o:Oper}{z:List T}{k:Nat}(hm:x9 o.op=true)(hc:bM P mu o.op=some (.b (.alloc z)))(h:SR w0 g H w)(hk:H[k]?=some (.cells z))(hn:g.φ k=none) :
  ∃v w' g',(∀(K:Act→World→Prop) (Q:Exit→Act→World→Prop),K (a.put o.dst v) w'→o.wpIn (Fw r) 0 P a w K Q)∧Le g w g' w'∧SR w0 g' H w'∧VR g' w' (.ptr k 0) v∧∀b,g.φ b=none→b≠k→g'.φ b=none:=by
 obtain⟨dst,op,ty,pos,after,guard⟩:=o
 simp only at hm hc
 have hc:=jl hc
 unfold x9 at hm
 split at hm
 ·rename_i t _
  simp only[bD,Option.map_eq_some_iff]at hc
  obtain⟨z',h1,h2⟩:=hc
  cases h2
  obtain⟨i,zv,h2,h3,h4⟩:=fL h1
  obtain⟨hv,ho⟩:=dA (g:=g) (w:=w) _ _ h4
  have tr:Tr w w gu iC:=Tr.refl w
  obtain⟨le,sr,fr⟩:=h.mut (c:=zv.cells) (ty:=t) (H':=H) (b:=k) tr rfl hk hn (fun b' x _ hx=>.inl hx) (Nat.le_refl _) (fun b' x hx _ _ _=>hx) (by simpa using hv.Mg ho)
  refine⟨.pointer (some ⟨w.heap.size,0,none⟩),_,_,fun K Q hk=>⟨fun _ _=>trivial,?_⟩,le,sr,.ptr (r:=w.heap.size) (o:=0) (q:=zv.cells.size) (by simp[Ctx.at]),fun b hb bG=>by simp only[Ctx.at,Ctx.row];rw[if_neg bG];exact hb⟩
  rw[Oper.semAt_eq _ _ _ (by rintro c⟨⟩)]
  have cw:(execOp a.eval ⟨dst,.alloc t,ty,pos,after,guard⟩).run P w=.ok (.value (.pointer (some ⟨w.heap.size,0,none⟩))) (w.alloc (.cells zv.cells t)):=by
   simp[execOp,Instr.alloc,zeroValue,bn h2,h3,newVar,newRow]
  rw[cw]
  exact hk
 ·simp[bD]at hc
 ·cases hm
theorem Bn {r:Option Nat}{mu:Bool}{o:Oper}{k:Nat}(hm:x9 o.op=true)(hc:bM P mu o.op=some (.b .zd))(h:SR w0 g H w)(hk:H[k]?=some (.map []))(hn:g.φ k=none) :
  ∃v w' g',(∀(K:Act→World→Prop) (Q:Exit→Act→World→Prop),K (a.put o.dst v) w'→o.wpIn (Fw r) 0 P a w K Q)∧Le g w g' w'∧SR w0 g' H w'∧VR g' w' (.map k) v∧∀b,g.φ b=none→b≠k→g'.φ b=none:=by
 obtain⟨dst,op,ty,pos,after,guard⟩:=o
 simp only at hm hc
 have hc:=jl hc
 unfold x9 at hm
 split at hm
 ·simp[bD]at hc
 ·rename_i t _
  obtain⟨le,sr⟩:=h.C3 (H':=H) (b:=k) hk hn (fun b' x _ hx=>hx) (Nat.le_refl _)
  refine⟨.map (some w.heap.size),_,_,fun K Q hk=>⟨fun _ _=>trivial,?_⟩,le,sr,.map (r:=w.heap.size) (o:=0) (q:=0) (by simp[Ctx.at]),fun b hb bG=>by simp only[Ctx.at,Ctx.row];rw[if_neg bG];exact hb⟩
  rw[Oper.semAt_eq _ _ _ (by rintro c⟨⟩)]
  have cw:(execOp a.eval ⟨dst,.makeMap t none,ty,pos,after,guard⟩).run P w=.ok (.value (.map (some w.heap.size))) (w.alloc (.map #[] 0)):=by
   simp[execOp,Instr.makeMap]
  rw[cw]
  exact hk
 ·cases hm
end
theorem Fr.ext (g:Ctx)(H l:af):Fr g H g (H++l):=⟨by simp,fun b x hx _ hn=>⟨lA hx,hn⟩⟩
structure Dr (P:Program)(n:Nat)(ops:Array Oper)(mu:Nat→Bool)(w0:World)(df:List Deferred)(mk:T)(g0:Ctx)(ws:World)(H0:af)
  (pre:List It) (L:Array Bool) (g:Ctx) (R:ar) (H:af) (a:Act) (w:World):Prop where
 yf:L.size=ops.size
 cmp:∀y∈pre,∃o,ops[y.i]?=some o∧(∃st,fD P n ops (mu y.i) o st=some y.o)∧y.ts=tmpsOf o y.o.op y.o.g
 rd:∀y∈pre,∀z∈pre,z.early=true→∀d,z.o.d=some d→d∈y.ts→((eG ops.toList []).getD y.i 0).testBit z.i=true
 dd:∀y∈pre,∀z∈pre,∀d,y.o.d=some d→z.o.d=some d→y.i=z.i
 kl:∀y∈pre,y.early=true→∀o,ops[y.i]?=some o→He y.o=.make→x9 o.op=true
 uniq:∀y∈pre,∀z∈pre,y.i=z.i→y=z
 rX:∀y∈pre,∀o,ops[y.i]?=some o→∀j∈cB o,j<y.i
 closed:∀i o,ops[i]?=some o→L.getD i false=true→∀j∈cB o,j<i∧L.getD j false=true
 sub:∀i,L.getD i false=true→∃y∈pre,y.i=i
 qy:∀y∈pre,y.early=false→L.getD y.i false=true
 sr:SR w0 g H w
 le:Le g0 ws g w
 fr:Fr g0 H0 g H
 vq:a.tmps.size=n
 uo:∀t,t<n→(∀y∈pre,L.getD y.i false=false→y.o.d≠some t)→VR g w (R t) (a.tmps.getD t undef)
 fz:∀y∈pre,L.getD y.i false=false→rW g H0.length R H y
 inj:∀y∈pre,∀z∈pre,L.getD y.i false=false→L.getD z.i false=false→y.i≠z.i→∀k,jI R y=some k→jI R z≠some k
 KP:a.defers=df
 KQ:R n=mk
section
variable {P:Program} {n:Nat} {ops:Array Oper} {mu:Nat→Bool} {w0 w ws:World} {df:List Deferred} {mk:T} {g g0:Ctx} {H H0 H':af} {pre:List It} {L:Array Bool} {R:ar} {a:Act} {r:Option Nat}
theorem lB {i:Nat}(h:i∈Region.ready .any ops L):L.getD i false=false∧∃o,ops[i]?=some o∧∀j∈cB o,L.getD j false=true:=by
 obtain⟨h1,o,h2,h3⟩:=mem_ready.1 h
 refine⟨?_,o,h2,fun j hj=>?_⟩
 ·cases hi:L[i]? with
  | none=>simp[Array.getD_eq_getD_getElem?,hi]at h1
  | some b=>simp[Array.getD_eq_getD_getElem?,hi]at h1 ⊢;exact h1
 ·simp only[cB,List.mem_map,List.mem_filter]at hj
  obtain⟨e,⟨he,hb⟩,rfl⟩:=hj
  exact h3 e (by simpa using he) hb
theorem Dr.bit (h:Dr P n ops mu w0 df mk g0 ws H0 pre L g R H a w){i:Nat}{o:Oper}{t:Nat}(ho:ops[i]?=some o)(hp:∀j∈cB o,j<i∧L.getD j false=true)
  (hb:((eG ops.toList []).getD i 0).testBit t=true):L.getD t false=true :=
 vX (D:=fun i=>L.getD i false=true) h.closed i o t ho hp hb
theorem dy {i j:Nat}(hi:i<L.size):(L.setIfInBounds i true).getD j false=if i=j then true else L.getD j false:=by
 by_cases e:i=j
 ·subst e;simp[Array.getD_eq_getD_getElem?,hi]
 ·rw[if_neg e,Array.getD_eq_getD_getElem?,Array.getD_eq_getD_getElem?,Array.getElem?_setIfInBounds_ne e]
theorem gC {o:Oper}{y:It}(h:y.ts=tmpsOf o y.o.op y.o.g):(∀t∈me y.o.g,t∈y.ts)∧(∀t∈zy y.o.op,t∈y.ts)∧∀t∈eZ o.op.operands.toList,t∈y.ts:=by
 rw[h];unfold tmpsOf
 exact⟨fun t ht=>by simp[ht],fun t ht=>by simp[ht],fun t ht=>by simp[ht]⟩
theorem Dr.look (h:Dr P n ops mu w0 df mk g0 ws H0 pre L g R H a w){i:Nat}{o:Oper}{ts:List Nat}(ho:ops[i]?=some o)(hp:∀j∈cB o,j<i∧L.getD j false=true)(hn:∀t∈ts,t<n)
  (hz:∀z∈pre,z.early=true→∀d,z.o.d=some d→d∈ts→((eG ops.toList []).getD i 0).testBit z.i=true):gA g w R a ts:=by
 intro t ht
 refine h.uo t (hn t ht) fun z pJ hu hd=>?_
 cases he:z.early with
 | false=>rw[h.qy z pJ he]at hu;cases hu
 | true=>rw[h.bit ho hp (hz z pJ he t hd ht)]at hu;cases hu
theorem Dr.late (h:Dr P n ops mu w0 df mk g0 ws H0 pre L g R H a w){y:It}(hy:y∈pre)(hr:y.i∈Region.ready .any ops L) :
  ∃v w' g',(∀(K:Act→World→Prop) (Q:Exit→Act→World→Prop),K (a.put y.o.d v) w'→wpOpIn (Fw r) 0 P ops Q y.i K a w) ∧
   Dr P n ops mu w0 df mk g0 ws H0 pre (L.setIfInBounds y.i true) g' R H (a.put y.o.d v) w':=by
 obtain⟨MB,o,ho,oF⟩:=lB hr
 obtain⟨o',mz,⟨st,fA⟩,Cq⟩:=h.cmp y hy
 rw[ho]at mz;cases mz
 obtain⟨op,gd,PF,hgd,MC,Wd,Hf⟩:=bq fA
 have hd:y.o.d=o.dst:=by rw[MC]
 have QD:y.o.op=op:=by rw[MC]
 have We:y.o.g=gd:=by rw[MC]
 obtain⟨ht1,UX,ht3⟩:=gC Cq
 have hp:∀j∈cB o,j<y.i∧L.getD j false=true:=fun j hj=>⟨h.rX y hy o ho j hj,oF j hj⟩
 have pG:gA g w R a y.ts:=h.look ho hp (fun t ht=>Wd t (by rw[Cq,QD,We]at ht;exact ht)) (h.rd y hy)
 have UY:Region.wanted o (yielded ops a.tmps)=bL R y.o.g:=by
  rw[We];exact oE hgd h.vq (fun t ht=>Wd t (by simp[tmpsOf,ht])) (pG.sub (by rw[←We];exact ht1))
 have kM:y.i<L.size:=by rw[h.yf];exact(Array.getElem?_eq_some_iff.1 ho).1
 have Wf:∀e,y.o.d=some e→e<a.tmps.size:=fun e he=>by rw[h.vq];exact Hf e (hd▸he)
 have dF:∀v w' g',Le g w g' w'→SR w0 g' H w'→(∀d,y.o.d=some d→VR g' w' (R d) v)→Fr g0 H0 g' H→(∀z∈pre,L.getD z.i false=false→z.i≠y.i→rW g' H0.length R H z) →
   Dr P n ops mu w0 df mk g0 ws H0 pre (L.setIfInBounds y.i true) g' R H (a.put y.o.d v) w':=by
  intro v w' g' le sr hv fr QE
  refine { yf:=(by simp[h.yf]),cmp:=h.cmp,rd:=h.rd,dd:=h.dd,kl:=h.kl,uniq:=h.uniq,rX:=h.rX,closed:=?_,sub:=?_,qy:=?_,sr:=sr,le:=h.le.trans le,fr:=fr,vq:=(by rw[qx];exact h.vq),uo:=?_,fz:=?_,inj:=?_,KP:=(by rw[iS];exact h.KP),KQ:=h.KQ }
  ·intro i oi uq yg j hj
   rw[dy kM]at yg ⊢
   by_cases e:y.i=i
   ·subst e;rw[ho]at uq;cases uq
    obtain⟨h1,h2⟩:=hp j hj
    exact⟨h1,by split<;>simp[h2]⟩
   ·rw[if_neg e]at yg
    obtain⟨h1,h2⟩:=h.closed i oi uq yg j hj
    exact⟨h1,by split<;>simp[h2]⟩
  ·intro i yg
   rw[dy kM]at yg
   by_cases e:y.i=i
   ·exact⟨y,hy,e⟩
   ·rw[if_neg e]at yg;exact h.sub i yg
  ·intro z hz he
   rw[dy kM]
   split
   ·rfl
   ·exact h.qy z hz he
  ·intro t ht gD
   rw[qw _ _ _ _ Wf]
   split
   ·rename_i e;exact hv t e
   ·rename_i e
    refine(h.uo t ht fun z hz hu pL=>?_).mono le
    by_cases ez:y.i=z.i
    ·rw[h.uniq y hy z hz ez]at e;exact e pL
    ·exact gD z hz (by rw[dy kM,if_neg ez];exact hu) pL
  ·intro z hz hu
   rw[dy kM]at hu
   by_cases ez:y.i=z.i
   ·rw[if_pos ez]at hu;cases hu
   ·rw[if_neg ez]at hu;exact QE z hz hu (Ne.symm ez)
  ·intro z hz z' pJ hu Dp
   rw[dy kM]at hu Dp
   by_cases ez:y.i=z.i
   ·rw[if_pos ez]at hu;cases hu
   ·by_cases ez':y.i=z'.i
    ·rw[if_pos ez']at Dp;cases Dp
    ·rw[if_neg ez]at hu;rw[if_neg ez']at Dp;exact h.inj z hz z' pJ hu Dp
 have Dq:∀g',Fr g H g' H→∀z∈pre,L.getD z.i false=false→z.i≠y.i→rW g' H0.length R H z:=fun g' fr z hz hu _ =>
  (h.fz z hz hu).mono (fun _ _=>rfl) (fun _ _=>rfl) (fun _ _=>rfl) (fun _ _ _ _ _ _ e=>e) (fun k x _ hx IT hn _=>fr.2 k x hx IT hn)
 rcases h.fz y hy MB with⟨hw,hu⟩|⟨hw,d,b,o7,ko,QF⟩
 ·refine⟨undef,w,g,fun K Q hk=>?_,dF undef w g (.refl _ _) h.sr (fun d e=>by rw[hu d e];exact gR) h.fr (Dq g (.refl _ _))⟩
  unfold wpOpIn
  simp only[ho,UY,hw]
  rw[hd]at hk
  exact⟨fun _ _=>trivial,hk⟩
 ·have MD:bM P (mu y.i) o.op=some (.b b):=by rw[←ko,QD];exact PF
  rcases QF with⟨hk,he⟩|⟨k,z,rfl,e1,e2,e3,e4⟩|⟨k,rfl,e1,e2,e3,e4⟩
  ·obtain⟨v,w',g',hs,le,sr,hv,fr⟩:=Dm (r:=r) MD h.sr (pG.sub ht3) he
   refine⟨v,w',g',fun K Q bN=>?_,dF v w' g' le sr (fun d' e=>by rw[o7]at e;cases e;exact hv) (h.fr.trans fr) (Dq g' fr)⟩
   unfold wpOpIn
   simp only[ho,UY,hw,if_true]
   exact hs K Q (by rw[←hd];exact bN)
  ·-- a variable aa0 jF place
   have ME:y.early=true:=by cases he:y.early with|true=>rfl|false=>rw[h.qy y hy he]at MB;cases MB
   have vo:=h.kl y hy ME o ho (by simp[He,ko,o7,qt])
   obtain⟨v,w',g',hs,le,sr,hv,hφ⟩:=vZ (r:=r) (a:=a) vo MD h.sr e2 e3
   have Wg:jI R y=some k:=by simp[jI,o7,ko,e1,mh]
   refine⟨v,w',g',fun K Q bN=>?_,dF v w' g' le sr (fun d' e=>by rw[o7]at e;cases e;rw[e1];exact hv) ⟨h.fr.1,fun b x hx IT hb=>?_⟩ fun z' pJ Dp bG=>?_⟩
   ·unfold wpOpIn
    simp only[ho,UY,hw,if_true]
    exact hs K Q (by rw[←hd];exact bN)
   ·obtain⟨f1,f2⟩:=h.fr.2 b x hx IT hb
    exact⟨f1,hφ b f2 (by have:=(List.getElem?_eq_some_iff.1 hx).1;omega)⟩
   ·exact(h.fz z' pJ Dp).mono (fun _ _=>rfl) (fun _ _=>rfl) (fun _ _=>rfl) (fun _ _ _ _ _ _ e=>e) fun k' x qi hx _ hn _ =>
     ⟨hx,hφ k' hn (by rintro rfl;exact h.inj y hy z' pJ MB Dp (Ne.symm bG) k' Wg qi)⟩
  ·have ME:y.early=true:=by cases he:y.early with|true=>rfl|false=>rw[h.qy y hy he]at MB;cases MB
   have vo:=h.kl y hy ME o ho (by simp[He,ko,o7,qt])
   obtain⟨v,w',g',hs,le,sr,hv,hφ⟩:=Bn (r:=r) (a:=a) vo MD h.sr e2 e3
   have Wg:jI R y=some k:=by simp[jI,o7,ko,e1,mh]
   refine⟨v,w',g',fun K Q bN=>?_,dF v w' g' le sr (fun d' e=>by rw[o7]at e;cases e;rw[e1];exact hv) ⟨h.fr.1,fun b x hx IT hb=>?_⟩ fun z' pJ Dp bG=>?_⟩
   ·unfold wpOpIn
    simp only[ho,UY,hw,if_true]
    exact hs K Q (by rw[←hd];exact bN)
   ·obtain⟨f1,f2⟩:=h.fr.2 b x hx IT hb
    exact⟨f1,hφ b f2 (by have:=(List.getElem?_eq_some_iff.1 hx).1;omega)⟩
   ·exact(h.fz z' pJ Dp).mono (fun _ _=>rfl) (fun _ _=>rfl) (fun _ _=>rfl) (fun _ _ _ _ _ _ e=>e) fun k' x qi hx _ hn _ =>
     ⟨hx,hφ k' hn (by rintro rfl;exact h.inj y hy z' pJ MB Dp (Ne.symm bG) k' Wg qi)⟩
end
structure Hd (P:Program)(n:Nat)(ops:Array Oper)(mu:Nat→Bool)(pre:List It)(x:It)(o:Oper):Prop where
 ho:ops[x.i]?=some o
 co:fD P n ops (mu x.i) o x.o.AO=some x.o
 ts:x.ts=tmpsOf o x.o.op x.o.g
 st:x.early=false→x.o.AO=iR ((eG ops.toList []).getD x.i 0) pre
 pred:∀j∈cB o,j<x.i∧∃z∈pre,z.i=j
 beh:∀z∈pre,z.early=true∨((eG ops.toList []).getD x.i 0).testBit z.i=true
 ne:∀z∈pre,z.i≠x.i
 dst:∀d,x.o.d=some d→(∀z∈pre,z.o.d≠some d∧(d∈z.ts→x.early=false∧((eG ops.toList []).getD x.i 0).testBit z.i=true))∧d∉x.ts
 Wh:∀z∈pre,∀d,z.o.d=some d→d∈x.ts→((eG ops.toList []).getD x.i 0).testBit z.i=true
 kl:x.early=true→He x.o≠.MA∧(He x.o=.make→x9 o.op=true)
theorem Bp {P:Program}{n:Nat}{ops:Array Oper}{mu:Nat→Bool}{pre:List It}{y:Nat×Bool}{x:It}(h:ya P n ops mu ((eG ops.toList []).getD y.1 0) pre y=some x):∃o,Hd P n ops mu pre x o:=by
 unfold ya at h
 generalize G9:(eG ops.toList []).getD y.1 0=bs at h
 cases ho:ops[y.1]? with
 | none=>simp[ho]at h
 | some o =>
  rw[ho]at h;dsimp only at h
  cases hc:fD P n ops (mu y.1) o (if y.2=true then []else iR bs pre)with
  | none=>rw[hc]at h;cases h
  | some o' =>
   rw[hc]at h;dsimp only at h
   split at h
   ·rename_i hk
    cases h
    subst G9
    have dG:o'.AO=if y.2=true then []else iR ((eG ops.toList []).getD y.1 0) pre:=by
     obtain⟨op,gd,_,_,e,_⟩:=bq hc;rw[e]
    simp only[Dk,Bool.and_eq_true,List.all_eq_true,decide_eq_true_eq,List.any_eq_true,beq_iff_eq,Bool.or_eq_true,bne_iff_ne,ne_eq,Bool.not_eq_true']at hk
    obtain⟨⟨⟨⟨⟨k1,k2⟩,k3⟩,k4⟩,k5⟩,k6⟩:=hk
    refine⟨o,ho,by rw[dG];exact hc,rfl,fun he=>by simp only at he;rw[dG,he];rfl,k1,k2,k3,fun d hd=>?_,fun z hz d hd ht=>?_,fun he=>?_⟩
    ·simp only at hd
     rw[hd]at k4
     simp only[List.all_eq_true,Bool.and_eq_true,bne_iff_ne,ne_eq,Bool.or_eq_true,Bool.not_eq_true',List.contains_eq_mem,decide_eq_false_iff_not,decide_eq_true_eq]at k4
     exact⟨fun z hz=>⟨(k4.1 z hz).1,fun ht=>((k4.1 z hz).2.resolve_left (fun hn=>hn ht))⟩,k4.2⟩
    ·have:=k5 z hz
     rw[hd]at this
     simp only[Bool.or_eq_true,Bool.not_eq_true',List.contains_eq_mem,decide_eq_false_iff_not]at this
     exact this.resolve_left (fun hn=>hn ht)
    ·rcases k6 with k6|k6
     ·have Co:y.2=true:=he
      rw[Co]at k6;cases k6
     ·exact⟨k6.1,fun hm=>k6.2.resolve_left (fun hn=>hn hm)⟩
   ·cases h
theorem jJ {P:Program}{n:Nat}{ops:Array Oper}{mu:Nat→Bool}{pre:List It}{y:Nat×Bool}{ord:List (Nat×Bool)}{jF:List It}(h:dL P n ops mu (eG ops.toList []) pre (y :: ord)=some jF) :
  ∃x l o,jF=x :: l∧Hd P n ops mu pre x o∧dL P n ops mu (eG ops.toList []) (pre++[x]) ord=some l:=by
 simp only[dL]at h
 split at h
 ·rename_i x hx
  simp only[Option.map_eq_some_iff]at h
  obtain⟨l,h1,rfl⟩:=h
  obtain⟨o,ho⟩:=Bp hx
  exact⟨x,l,o,rfl,ho,h1⟩
 ·cases h
theorem cU {P:Program}{n:Nat}{ops:Array Oper}{mu:Nat→Bool}:∀(ord:List (Nat×Bool)) (pre jF:List It),dL P n ops mu (eG ops.toList []) pre ord=some jF→∀i,i<ops.size→∃y∈pre++jF,y.i=i
 | [],pre,jF,h,i,hi=>by
  simp only[dL]at h
  split at h
  ·rename_i hk
   cases h
   simp only[List.all_eq_true,List.mem_range,List.any_eq_true,beq_iff_eq]at hk
   simpa using hk i hi
  ·cases h
 | y :: ord,pre,jF,h,i,hi=>by
  obtain⟨x,l,o,rfl,_,h2⟩:=jJ h
  simpa using cU ord (pre++[x]) l h2 i hi
theorem dp {P:Program}{n:Nat}{ops:Array Oper}{mu:Nat→Bool}:∀(ord:List (Nat×Bool)) (pre jF:List It),dL P n ops mu (eG ops.toList []) pre ord=some jF→∀y∈jF,(∃o,ops[y.i]?=some o∧(∀j∈cB o,j<y.i))∧∀z∈pre,z.early=true∨((eG ops.toList []).getD y.i 0).testBit z.i=true
 | [],pre,jF,h,y,hy=>by
  simp only[dL]at h
  split at h
  ·cases h;cases hy
  ·cases h
 | u :: ord,pre,jF,h,y,hy=>by
  obtain⟨x,l,o,rfl,h1,h2⟩:=jJ h
  rcases List.mem_cons.1 hy with rfl|hy
  ·exact⟨⟨o,h1.ho,fun j hj=>(h1.pred j hj).1⟩,h1.beh⟩
  ·obtain⟨h3,h4⟩:=dp ord (pre++[x]) l h2 y hy
   exact⟨h3,fun z hz=>h4 z (by simp[hz])⟩
theorem qz {b:Nat}{y:It}{d:Nat}{op:Bo}:∀(pre:List It),y∈pre→y.early=true→y.o.d=some d→y.o.op=.b op→qt op=.read→b.testBit y.i=false→⟨d,op,y.o.g⟩∈iR b pre
 | [],h,_,_,_,_,_=>by cases h
 | z :: pre,h,h1,h2,h3,h4,h5=>by
  rcases List.mem_cons.1 h with rfl|h
  ·simp[iR,h1,h2,h3,h4,h5]
  ·have ih:=qz pre h h1 h2 h3 h4 h5
   simp only[iR]
   split
   ·split
    ·exact List.mem_cons_of_mem _ ih
    ·exact ih
   ·exact ih
theorem gS {R R':ar}{y:It}(h:∀d,y.o.d=some d→R' d=R d):jI R' y=jI R y:=by
 unfold jI
 split
 ·rename_i d z h1 h2;simp only[h1,h2,h d h1]
 ·rename_i d h1 h2;simp only[h1,h2,h d h1]
 ·rfl
theorem rW.lt {g:Ctx}{N:Nat}{R:ar}{H:af}{y:It}(h:rW g N R H y){k:Nat}(hm:jI R y=some k):k<H.length:=by
 unfold jI at hm
 rcases h with⟨_,h2⟩|⟨_,d,b,h2,h3,h4⟩
 ·split at hm
  ·rename_i d z h1 _;rw[h2 d h1]at hm;cases hm
  ·rename_i d h1 _;rw[h2 d h1]at hm;cases hm
  ·cases hm
 ·rw[h2,h3]at hm
  rcases h4 with⟨hk,he⟩|⟨k',z,rfl,e1,e2,e3,e4⟩|⟨k',rfl,e1,e2,e3,e4⟩
  ·cases b<;>simp[qt]at hk hm
  ·simp only[e1,mh,Option.some.injEq]at hm;subst hm;exact(List.getElem?_eq_some_iff.1 e2).1
  ·simp only[e1,mh,Option.some.injEq]at hm;subst hm;exact(List.getElem?_eq_some_iff.1 e2).1
section
variable {P:Program} {n:Nat} {ops:Array Oper} {mu:Nat→Bool} {w0 w w' ws:World} {df:List Deferred} {mk:T} {g g' g0:Ctx} {H H0 H':af} {pre:List It} {L:Array Bool} {R:ar} {a:Act} {r:Option Nat} {x:It} {o:Oper}
theorem Dr.mD (h:Dr P n ops mu w0 df mk g0 ws H0 pre L g R H a w)(hd:Hd P n ops mu pre x o):L.getD x.i false=false:=by
 cases e:L.getD x.i false with
 | false=>rfl
 | true=>obtain⟨y,hy,e⟩:=h.sub x.i e;exact absurd e (hd.ne y hy)
theorem a7 {α:Type}{y x:α}{l:List α}(h:y∈l++[x]):y∈l∨y=x:=by simpa using h
theorem Dr.take (h:Dr P n ops mu w0 df mk g0 ws H0 pre L g R H a w)(hd:Hd P n ops mu pre x o)(he:x.early=true){t:T}(hp:rW g H0.length (bu R x.o.d t) H' x)
  (hH:H'=H∨∃B,H'=H++[B]∧((∃cs,B=.cells cs)∨∃es,B=.map es)) (hm:∀k,jI (bu R x.o.d t) x=some k→H.length≤k):Dr P n ops mu w0 df mk g0 ws H0 (pre++[x]) L g (bu R x.o.d t) H' a w:=by
 have Ds:=h.mD hd
 have fB:∀t:T,x.o.d≠some n:=fun _ e=>by
  obtain⟨op,gd,_,_,MC,_,Hf⟩:=bq hd.co
  have UZ:x.o.d=o.dst:=by rw[MC]
  exact Nat.lt_irrefl n (Hf n (UZ▸e))
 have Cq:∀z∈pre,∀u∈z.ts,bu R x.o.d t u=R u:=fun z hz u hu=>cC fun e=>by
  obtain⟨h1,_⟩:=((hd.dst u e).1 z hz).2 hu
  rw[he]at h1;cases h1
 have zz:∀z∈pre,∀d,z.o.d=some d→bu R x.o.d t d=R d:=fun z hz d pL=>cC fun e=>((hd.dst d e).1 z hz).1 pL
 have Wi:∃l,H'=H++l:=by
  rcases hH with rfl|⟨B,rfl,_⟩
  ·exact⟨[],by simp⟩
  ·exact⟨[B],rfl⟩
 obtain⟨l,hl⟩:=Wi
 have hpz:∀z∈pre,L.getD z.i false=false→rW g H0.length (bu R x.o.d t) H' z:=fun z hz hu=>by
  obtain⟨oz,_,_,Wj⟩:=h.cmp z hz
  obtain⟨t1,t2,_⟩:=gC Wj
  refine(h.fz z hz hu).mono (fun u hu=>Cq z hz u (t1 u hu)) (fun u hu=>Cq z hz u (t2 u hu)) (zz z hz) (fun d b _ _ _ hk e=>?_) (fun k y _ hy _ hn _=>?_)
  ·subst hl;exact(sN hk e).2 l
  ·subst hl;exact⟨lA hy,hn⟩
 refine { yf:=h.yf,cmp:=?_,rd:=?_,dd:=?_,kl:=?_,uniq:=?_,rX:=?_,closed:=h.closed,sub:=fun i hi=>?_,qy:=?_,sr:=?_,le:=h.le,fr:=?_,vq:=h.vq,uo:=?_,fz:=?_,inj:=?_,KP:=h.KP,KQ:=(by rw[cC (fB t)];exact h.KQ) }
 ·intro y hy
  replace hy:=a7 hy;rcases hy with hy|rfl
  ·exact h.cmp y hy
  ·exact⟨o,hd.ho,⟨_,hd.co⟩,hd.ts⟩
 ·intro y hy z hz QG d pL MF
  replace hy:=a7 hy;rcases hy with hy|rfl
  ·replace hz:=a7 hz;rcases hz with hz|rfl
   ·exact h.rd y hy z hz QG d pL MF
   ·obtain⟨h1,_⟩:=((hd.dst d pL).1 y hy).2 MF
    rw[he]at h1;cases h1
  ·replace hz:=a7 hz;rcases hz with hz|rfl
   ·exact hd.Wh z hz d pL MF
   ·exact absurd MF (hd.dst d pL).2
 ·intro y hy z hz d IU pL
  replace hy:=a7 hy;rcases hy with hy|rfl
  ·replace hz:=a7 hz;rcases hz with hz|rfl
   ·exact h.dd y hy z hz d IU pL
   ·exact absurd IU ((hd.dst d pL).1 y hy).1
  ·replace hz:=a7 hz;rcases hz with hz|rfl
   ·exact absurd pL ((hd.dst d IU).1 z hz).1
   ·rfl
 ·intro y hy zA o' mz
  replace hy:=a7 hy;rcases hy with hy|rfl
  ·exact h.kl y hy zA o' mz
  ·rw[hd.ho]at mz;cases mz;exact(hd.kl zA).2
 ·intro y hy z hz e
  replace hy:=a7 hy;rcases hy with hy|rfl
  ·replace hz:=a7 hz;rcases hz with hz|rfl
   ·exact h.uniq y hy z hz e
   ·exact absurd e (hd.ne y hy)
  ·replace hz:=a7 hz;rcases hz with hz|rfl
   ·exact absurd e.symm (hd.ne z hz)
   ·rfl
 ·intro y hy o' mz j hj
  replace hy:=a7 hy;rcases hy with hy|rfl
  ·exact h.rX y hy o' mz j hj
  ·rw[hd.ho]at mz;cases mz;exact(hd.pred j hj).1
 ·obtain⟨y,hy,e⟩:=h.sub i hi
  exact⟨y,by simp[hy],e⟩
 ·intro y hy zA
  replace hy:=a7 hy;rcases hy with hy|rfl
  ·exact h.qy y hy zA
  ·rw[he]at zA;cases zA
 ·rcases hH with rfl|⟨B,rfl,hB⟩
  ·exact h.sr
  ·exact h.sr.Wc hB
 ·subst hl;exact h.fr.trans (Fr.ext g H l)
 ·intro u hu gD
  rw[cC (gD x (by simp) Ds)]
  exact h.uo u hu fun y hy pq=>gD y (by simp[hy]) pq
 ·intro y hy pq
  replace hy:=a7 hy;rcases hy with hy|rfl
  ·exact hpz y hy pq
  ·exact hp
 ·intro y hy z hz pq vN bG k hk kx
  replace hy:=a7 hy;rcases hy with hy|rfl
  ·rw[gS (zz y hy)]at hk
   replace hz:=a7 hz;rcases hz with hz|rfl
   ·rw[gS (zz z hz)]at kx
    exact h.inj y hy z hz pq vN bG k hk kx
   ·have h1:=(h.fz y hy pq).lt hk
    have h2:=hm k kx
    omega
  ·replace hz:=a7 hz;rcases hz with hz|rfl
   ·rw[gS (zz z hz)]at kx
    have h1:=(h.fz z hz vN).lt kx
    have h2:=hm k hk
    omega
   ·exact bG rfl
theorem Dr.both (h:Dr P n ops mu w0 df mk g0 ws H0 pre L g R H a w)(hd:Hd P n ops mu pre x o)(he:x.early=false)(hp:∀j∈cB o,L.getD j false=true){t:T}{v:Value}(le:Le g w g' w')(sr:SR w0 g' H' w')(hv:VR g' w' t v)(fr:Fr g H g' H')
  (hs:∀y∈pre,L.getD y.i false=false→∀d b,bL R y.o.g=true→y.o.d=some d→y.o.op=.b b→qt b=.read→al R H b=some (R d,H)→al R H' b=some (R d,H')) :
  Dr P n ops mu w0 df mk g0 ws H0 (pre++[x]) (L.setIfInBounds x.i true) g' (bu R x.o.d t) H' (a.put x.o.d v) w':=by
 have kM:x.i<L.size:=by rw[h.yf];exact(Array.getElem?_eq_some_iff.1 hd.ho).1
 have US:∀j∈cB o,j<x.i∧L.getD j false=true:=fun j hj=>⟨(hd.pred j hj).1,hp j hj⟩
 obtain⟨op,gd,PF,hgd,MC,Wd,Hf⟩:=bq hd.co
 have UZ:x.o.d=o.dst:=by rw[MC]
 have Wf:∀e,x.o.d=some e→e<a.tmps.size:=fun e h1=>by rw[h.vq];exact Hf e (UZ▸h1)
 have Cq:∀z∈pre,L.getD z.i false=false→∀u∈z.ts,bu R x.o.d t u=R u:=fun z hz hu u hut=>cC fun e=>by
  obtain⟨_,h2⟩:=((hd.dst u e).1 z hz).2 hut
  rw[h.bit hd.ho US h2]at hu;cases hu
 have zz:∀z∈pre,∀d,z.o.d=some d→bu R x.o.d t d=R d:=fun z hz d pL=>cC fun e=>((hd.dst d e).1 z hz).1 pL
 refine { yf:=(by simp[h.yf]),cmp:=?_,rd:=?_,dd:=?_,kl:=?_,uniq:=?_,rX:=?_,closed:=?_,sub:=?_,qy:=?_,sr:=sr,le:=h.le.trans le,fr:=h.fr.trans fr,vq:=(by rw[qx];exact h.vq),uo:=?_,fz:=?_,inj:=?_,KP:=(by rw[iS];exact h.KP),KQ:=(by rw[cC (fun e=>Nat.lt_irrefl n (Hf n (UZ▸e)))];exact h.KQ) }
 ·intro y hy
  replace hy:=a7 hy;rcases hy with hy|rfl
  ·exact h.cmp y hy
  ·exact⟨o,hd.ho,⟨_,hd.co⟩,hd.ts⟩
 ·intro y hy z hz QG d pL MF
  replace hz:=a7 hz;rcases hz with hz|rfl
  ·replace hy:=a7 hy;rcases hy with hy|rfl
   ·exact h.rd y hy z hz QG d pL MF
   ·exact hd.Wh z hz d pL MF
  ·rw[he]at QG;cases QG
 ·intro y hy z hz d IU pL
  replace hy:=a7 hy;rcases hy with hy|rfl
  ·replace hz:=a7 hz;rcases hz with hz|rfl
   ·exact h.dd y hy z hz d IU pL
   ·exact absurd IU ((hd.dst d pL).1 y hy).1
  ·replace hz:=a7 hz;rcases hz with hz|rfl
   ·exact absurd pL ((hd.dst d IU).1 z hz).1
   ·rfl
 ·intro y hy zA o' mz
  replace hy:=a7 hy;rcases hy with hy|rfl
  ·exact h.kl y hy zA o' mz
  ·rw[he]at zA;cases zA
 ·intro y hy z hz e
  replace hy:=a7 hy;rcases hy with hy|rfl
  ·replace hz:=a7 hz;rcases hz with hz|rfl
   ·exact h.uniq y hy z hz e
   ·exact absurd e (hd.ne y hy)
  ·replace hz:=a7 hz;rcases hz with hz|rfl
   ·exact absurd e.symm (hd.ne z hz)
   ·rfl
 ·intro y hy o' mz j hj
  replace hy:=a7 hy;rcases hy with hy|rfl
  ·exact h.rX y hy o' mz j hj
  ·rw[hd.ho]at mz;cases mz;exact(hd.pred j hj).1
 ·intro i oi uq yg j hj
  rw[dy kM]at yg ⊢
  by_cases e:x.i=i
  ·subst e
   rw[hd.ho]at uq;cases uq
   obtain⟨h1,h2⟩:=US j hj
   exact⟨h1,by split<;>simp[h2]⟩
  ·rw[if_neg e]at yg
   obtain⟨h1,h2⟩:=h.closed i oi uq yg j hj
   exact⟨h1,by split<;>simp[h2]⟩
 ·intro i yg
  rw[dy kM]at yg
  by_cases e:x.i=i
  ·exact⟨x,by simp,e⟩
  ·rw[if_neg e]at yg
   obtain⟨y,hy,e⟩:=h.sub i yg
   exact⟨y,by simp[hy],e⟩
 ·intro y hy zA
  rw[dy kM]
  split
  ·rfl
  ·rename_i bG
   replace hy:=a7 hy;rcases hy with hy|rfl
   ·exact h.qy y hy zA
   ·exact absurd rfl bG
 ·intro u hu gD
  rw[qw _ _ _ _ Wf]
  split
  ·rename_i e;rw[e,iG];exact hv
  ·rename_i e
   rw[cC e]
   exact(h.uo u hu fun y hy pq=>gD y (by simp[hy]) (by rw[dy kM,if_neg (Ne.symm (hd.ne y hy))];exact pq)).mono le
 ·intro y hy pq
  rw[dy kM]at pq
  split at pq
  ·cases pq
  ·rename_i bG
   replace hy:=a7 hy;rcases hy with hy|rfl
   ·obtain⟨oz,_,_,Wj⟩:=h.cmp y hy
    obtain⟨t1,t2,_⟩:=gC Wj
    exact(h.fz y hy pq).mono (fun u hu=>Cq y hy pq u (t1 u hu)) (fun u hu=>Cq y hy pq u (t2 u hu)) (zz y hy) (hs y hy pq) (fun k z _ hz IT hn _=>fr.2 k z hz IT hn)
   ·exact absurd rfl bG
 ·intro y hy z hz pq vN bG k hk kx
  rw[dy kM]at pq vN
  split at pq
  ·cases pq
  ·split at vN
   ·cases vN
   ·rename_i hn1 Iy
    replace hy:=a7 hy;rcases hy with hy|rfl
    ·replace hz:=a7 hz;rcases hz with hz|rfl
     ·rw[gS (zz y hy)]at hk
      rw[gS (zz z hz)]at kx
      exact h.inj y hy z hz pq vN bG k hk kx
     ·exact absurd rfl Iy
    ·exact absurd rfl hn1
theorem Dr.init (sr:SR w0 g H w)(hn:a.tmps.size=n)(vo:R n=mk)(hr:∀t,t<n→VR g w (R t) (a.tmps.getD t undef))(le:Le g0 ws g w)(fr:Fr g0 H0 g H):Dr P n ops mu w0 a.defers mk g0 ws H0 [] (Array.replicate ops.size false) g R H a w:=by
 have hf:∀i,(Array.replicate ops.size false).getD i false=false:=fun i=>by
  rw[Array.getD_eq_getD_getElem?,Array.getElem?_replicate];split<;>rfl
 refine { yf:=by simp,cmp:=(by simp),rd:=(by simp),dd:=(by simp),kl:=(by simp),uniq:=(by simp),rX:=(by simp),closed:=fun i o _ h=>?_,sub:=fun i h=>?_,qy:=(by simp),sr:=sr,le:=le,fr:=fr,vq:=hn,uo:=fun t ht _=>hr t ht,fz:=(by simp),inj:=(by simp),KP:=rfl,KQ:=vo }
 ·rw[hf]at h;cases h
 ·rw[hf]at h;cases h
end
section
variable {P:Program} {w0 w:World} {g:Ctx} {H H':af} {R:ar} {a:Act} {n:Nat} {ops:Array Oper}
def jU:Bo→Bool
 | .mS _ _ _ _=>true
 | _=>false
theorem gT {b:Bo}(h:jU b=false){neg:Bool}{c:HC}{x y:X}:b≠.mS neg c x y:=by rintro rfl;cases h
theorem Dt {ty:TypeId}{x:X}{b:Bo}(h:sG P ty x=some b):jU b=false:=by
 unfold sG at h;(repeat' split at h)<;>cases h<;>rfl
theorem sQ {ty:TypeId}{x:X}{f:Nat}{ad:Bool}{b:Bo}(h:mC P ty x f ad=some b):jU b=false:=by
 unfold mC at h;(repeat' split at h)<;>cases h<;>rfl
theorem zB {ty:TypeId}{x i:X}{ad:Bool}{b:Bo}(h:xZ P ty x i ad=some b):jU b=false:=by
 unfold xZ at h;(repeat' split at h)<;>first|(cases h<;>rfl)|(simp only[Option.map_eq_some_iff]at h;obtain⟨_,_,h⟩:=h;cases h;rfl)
theorem Bq {ty:TypeId}{x:X}{lo hi mx:Option X}{b:Bo}(h:ou P ty x lo hi mx=some b):jU b=false:=by
 unfold ou at h;(repeat' split at h)<;>cases h<;>rfl
theorem Du {src dst:TypeId}{x:X}{b:Bo}(h:sH P src dst x=some b):jU b=false:=by
 unfold sH at h;(repeat' split at h)<;>cases h<;>rfl
theorem yh {mu:Bool}{iB:List TypeId}{as:List X}{b:Bo}(h:lx P mu iB as=some b):jU b=false:=by
 unfold lx at h;(repeat' split at h)<;>cases h<;>rfl
theorem IV {iB:List TypeId}{as:List X}{b:Bo}(h:vP P iB as=some b):jU b=false:=by
 unfold vP at h;(repeat' split at h)<;>cases h<;>rfl
theorem v7 {mu:Bool}{bt:Builtin}{iB:List TypeId}{as:List X}{b:Bo}(h:jk P mu bt iB as=some b):jU b=false:=by
 unfold jk at h
 split at h
 ·split at h
  ·rename_i b' hz;cases h;exact IV hz
  ·exact yh h
 all_goals (repeat' split at h)<;>first|(cases h<;>rfl)|(simp only[Option.map_eq_some_iff]at h;obtain⟨_,_,h⟩:=h;cases h;rfl)
theorem Br {ty:TypeId}{ps:List (Nat×X)}{b:Bo}(h:ov P ty ps=some b):jU b=false:=by
 unfold ov at h;(repeat' split at h)<;>cases h<;>rfl
theorem IW {mu:Bool}{ty:TypeId}{n:Nat}{ps:List (Nat×X)}{b:Bo}(h:Bf P mu ty n ps=some b):jU b=false:=by
 cases mu<;>unfold Bf at h<;>(repeat' split at h)<;>cases h<;>rfl
theorem IX {mu:Bool}{ty:TypeId}{l c:X}{b:Bo}(h:Bg P mu ty l c=some b):jU b=false:=by
 unfold Bg at h;(repeat' split at h)<;>cases h<;>rfl
theorem yj {mu:Bool}{op:Op}{neg:Bool}{x y:X}(h:bD P mu op=some (.mS neg .slice x y)) :
  ∃PG ty ox oy yt e,op=.binOp PG ty ox oy yt∧aK ox=some x∧aK oy=some y∧P.underlying ty=some (.slice e)∧PG=(if neg then .neq else .eql):=by
 cases op<;>simp only[bD,Option.map_eq_some_iff,Option.bind_eq_some_iff]at h
 case binOp PG ty ox oy yt =>
  cases h1:aK ox with
  | none=>simp[h1]at h
  | some x'=>cases h2:aK oy with
   | none=>simp[h1,h2]at h
   | some y' =>
    simp only[h1,h2]at h
    unfold De at h
    split at h
    ·cases h
    ·cases h
    ·simp only[Option.map_eq_some_iff]at h;obtain⟨_,_,h⟩:=h;cases h
    ·split at h
     ·split at h<;>cases h
     ·cases h
    ·rename_i d _ _ _ _ hu
     split at h
     ·rename_i n' c hn lq
      cases h
      refine⟨PG,ty,ox,oy,yt,?_⟩
      cases d<;>simp[cls]at lq
      exact⟨_,rfl,h1,h2,hu,by cases PG<;>simp[isEq]at hn<;>subst hn<;>rfl⟩
     ·cases h
    ·cases h
 case load=>obtain⟨_,_,h⟩:=h;exact absurd rfl (gT (Dt h))
 case fieldAddr=>obtain⟨_,_,h⟩:=h;exact absurd rfl (gT (sQ h))
 case field=>obtain⟨_,_,h⟩:=h;exact absurd rfl (gT (sQ h))
 case indexAddr=>split at h;exact absurd rfl (gT (zB h));cases h
 case index=>split at h;exact absurd rfl (gT (zB h));cases h
 case slice=>split at h;exact absurd rfl (gT (Bq h));cases h
 case convert=>obtain⟨_,_,h⟩:=h;exact absurd rfl (gT (Du h))
 case build=>obtain⟨_,_,h⟩:=h;exact absurd rfl (gT (Br h))
 case buildSlice=>obtain⟨_,_,h⟩:=h;exact absurd rfl (gT (IW h))
 case makeSlice=>split at h;exact absurd rfl (gT (IX h));cases h
 case call c =>
  obtain⟨callee,args,iB⟩:=c
  cases callee
  case builtin=>simp only[bD,Option.bind_eq_some_iff]at h;obtain⟨_,_,h⟩:=h;exact absurd rfl (gT (v7 h))
  case value cv =>
   cases cv<;>simp only[bD]at h<;>(try (cases h;done))
   split at h<;>cases h
  all_goals simp[bD]at h
 case makeMap t r=>cases r<;>simp[bD]at h
 case next it str=>cases str<;>simp[bD]at h
 case range ty m=>split at h;(simp only[Option.map_eq_some_iff]at h;obtain⟨_,_,h⟩:=h;cases h);cases h
 case makeFunc f first ku =>
  cases f<;>simp only[bD]at h
  case func f =>
   split at h
   ·simp only[Option.map_eq_some_iff]at h;obtain⟨_,_,h⟩:=h;cases h
   ·cases h
  all_goals cases h
 all_goals first
  | (cases h;done)
  | (obtain⟨_,_,h⟩:=h;cases h;done)
  | ((repeat' split at h)<;>first|(cases h;done)|(simp only[Option.map_eq_some_iff]at h;obtain⟨_,_,h⟩:=h;cases h;done))
  | (simp only[Option.map_eq_some_iff]at h;obtain⟨_,_,h⟩:=h;cases h)
  | skip
theorem Bs {ty e:TypeId}{ox oy:Operand}{ad:Option Addr}{l p:Nat}{neg:Bool}(hu:P.underlying ty=some (.slice e)) :
  (do eqGuard (if neg then .neq else .eql) ty ox oy (.slice ad l p) (.slice none 0 0);binOp (if neg then .neq else .eql) ty (.slice ad l p) (.slice none 0 0)).run P w=.ok (.bool (if neg then !ad.isNone else ad.isNone)) w:=by
 have k1:∀op,(eqGuard op ty ox oy (.slice ad l p) (.slice none 0 0)).run P w=.ok () w:=fun op=>vF
 have k2:(Op.equal ty (.slice ad l p) (.slice none 0 0)).run P w=.ok ad.isNone w:=fS fun n=>by
  rw[Op.equalIn];simp only[Sem.run_bind,run_underlying hu,Result.andThen_ok]
  cases ad<;>simp_all
 have k3:∀neg:Bool,(binOp (if neg then .neq else .eql) ty (.slice ad l p) (.slice none 0 0)).run P w=((Op.equal ty (.slice ad l p) (.slice none 0 0)).run P w).andThen fun b w'=>.ok (.bool (if neg then !b else b)) w':=fun neg=>by cases neg<;>simp[binOp]
 simp only[Sem.run_bind,k1,Result.andThen_ok,k3,k2]
theorem Bt {r:Option Nat}{mu:Bool}{o:Oper}{neg:Bool}{x y:X}(hc:bM P mu o.op=some (.b (.mS neg .slice x y)))(hr:gA g w R a (eZ o.op.operands.toList))
  (hx:x.ev R=.sl .arg []) (hy:y.ev R=.sl .nil []):∃b:Bool,∀(K:Act→World→Prop) (Q:Exit→Act→World→Prop),K (a.put o.dst (.bool b)) w→o.wpIn (Fw r) 0 P a w K Q:=by
 have fB:=gI hc
 obtain⟨PG,ty,ox,oy,yt,e,ho,h1,h2,hu,rfl⟩:=yj (jl hc)
 have hrv:=sP hr
 have v1:=hrv ox (by rw[ho];simp[Op.operands]) x h1
 have v2:=hrv oy (by rw[ho];simp[Op.operands]) y h2
 rw[hx]at v1
 rw[hy]at v2
 generalize h3:a.eval ox=vx at v1
 generalize h4:a.eval oy=vy at v2
 have e2:vy=.slice none 0 0:=by
  cases v2 with
  | slnil=>rfl
  | sl cR hk=>exact hk.elim
 subst e2
 obtain⟨ad,l,p,rfl⟩:∃ad l p,vx=.slice ad l p:=by cases v1<;>exact⟨_,_,_,rfl⟩
 refine⟨if neg then !ad.isNone else ad.isNone,fun K Q hk=>⟨fun _ _=>trivial,?_⟩⟩
 rw[Oper.semAt_eq _ _ _ fB]
 have cw:(execOp a.eval o).run P w=.ok (.value (.bool (if neg then !ad.isNone else ad.isNone))) w:=by
  have:=Bs (P:=P) (w:=w) (ox:=ox) (oy:=oy) (ad:=ad) (l:=l) (p:=p) (neg:=neg) hu
  simp only[execOp,ho,h3,h4]
  rw[Sem.run_bind,this]
  rfl
 rw[cw]
 exact hk
end
def gU (g:Ctx)(w:World)(n:Nat)(R:ar)(a:Act):Prop:=a.tmps.size=n∧∀t,t<n→VR g w (R t) (a.tmps.getD t undef)
def rY:Exit→Option Ex
 | .normal=>some .normal
 | .exit id=>some (.exit id)
 | .ret=>some .ret
 | _=>none
def yk (w0:World)(n:Nat)(df:List Deferred)(mk:T)(g:Ctx)(w:World)(H:af)(Q:Out→af→Prop):Exit→Act→World→Prop:=fun e a' w' =>
 ∃ex R' g' H',rY e=some ex∧Q (.ex ex R') H'∧Le g w g' w'∧SR w0 g' H' w'∧gU g' w' n R' a'∧Fr g H g' H'∧a'.defers=df∧R' n=mk
def sR (w0:World)(g:Ctx)(w:World)(H:af)(Q:T→af→Prop):Ending→World→Prop:=fun e w' =>
 ∃v t g' H',e=.returned v∧Q t H'∧Le g w g' w'∧SR w0 g' H' w'∧VR g' w' t v∧Fr g H g' H'
structure zC (P:Program)(E:Env):Prop where
 mixed:P.follows .mixedOrders=true
 fn:∀f fn,E.fn f=some fn→∃an,aj P an f=some fn
 ob:∀f as H Q,E.ob f as H Q→∀w0 g w args,SR w0 g H w→bC g w as args→dw P f=true∧CallsIn (Fw none) 0 P f args.toArray w (sR w0 g w H Q)
inductive v8 (g:Ctx):List T→List Deferred→Prop
 | nil:v8 g [] []
 | cons {b r o q ts df} (h:g.φ b=some (r,o,q)) (hs:v8 g ts df):v8 g (.ptr b 0 :: ts) ({ target:=.collected r,args:=#[] } :: df)
theorem v8.mono {g g':Ctx}{w w':World}(le:Le g w g' w'){ts:List T}{df:List Deferred}(h:v8 g ts df):v8 g' ts df:=by
 induction h with
 | nil=>exact .nil
 | cons h _ ih=>exact .cons (le.φ _ _ h) ih
def Mk (g:Ctx)(t:T)(df:List Deferred):Prop:=∃ts,t=.bF ts∧v8 g ts df
theorem Mk.mono {g g':Ctx}{w w':World}(le:Le g w g' w'){t:T}{df:List Deferred}(h:Mk g t df):Mk g' t df:=let ⟨ts,e,h⟩:=h;⟨ts,e,h.mono le⟩
def kQ (w0:World)(n:Nat)(hr:Bool)(df:List Deferred)(mk:T)(g:Ctx)(w:World)(H:af)(Q:Out→af→Prop):Exit→Act→World→Prop:=fun e a' w' =>
 ∃ex R' g' H',rY e=some ex∧Q (.ex ex R') H'∧Le g w g' w'∧SR w0 g' H' w'∧gU g' w' n R' a'∧Fr g H g' H'∧(Mk g mk df→Mk g' (R' n) a'.defers)∧(hr=false→R' n=mk∧a'.defers=df)
def fU (P:Program)(g:Ctx):Prop:=∀n c k,g.ck n c k↔∃an,bB P n an false k=some c
theorem fU.mono {P:Program}{g g':Ctx}{w w':World}(le:Le g w g' w')(h:fU P g):fU P g':=fun n c k=>by rw[le.ck];exact h n c k
def qA (F:Fence)(n:Nat)(P:Program)(c:Code)(Q:Exit→Act→World→Prop)(a:Act)(w:World):Prop :=
 ∀(b:Frame) (k:List Item) (cs:List Frame),b.roundOf=F.round→F.fn b.fn→F.room (cs.length+1+n) →
  ∃e a' w',Q e a' w'∧ArrivesIn (Machine.fenced P F) P (lone (b.atR a (.code c :: .inLoop c :: k)) cs w) b k cs e a' w'
theorem v9 {F:Fence}{n:Nat}{P:Program}{c:Code}{Q:Exit→Act→World→Prop}{a:Act}{w:World}(h:c.wpIn F n P (Exit.then (qA F n P c Q) Q) a w):qA F n P c Q a w:=by
 intro b k cs U0 hb hr
 obtain⟨e,a₁,w₁,hq,nn⟩:=h b (.inLoop c :: k) cs U0 hb hr
 cases e with
 | normal =>
  obtain⟨e₂,a₂,w₂,hq₂,QH⟩:=hq b k cs U0 hb hr
  exact⟨e₂,a₂,w₂,hq₂,.of_steps (StepsIn.trans nn (.one (fenced_calm hb hr rfl) stepR_inLoop)) QH⟩
 | exit id=>exact⟨_,a₁,w₁,hq,.pass (x:=.inLoop c) rfl (fun _ _=>.inl (by simp)) nn⟩
 | goto l=>exact⟨_,a₁,w₁,hq,.pass (x:=.inLoop c) rfl (fun _ _=>.inl (by simp)) nn⟩
 | ret=>exact⟨_,a₁,w₁,hq,.pass (x:=.inLoop c) rfl (fun _ _=>.inl (by simp)) nn⟩
 | panic ch=>exact⟨_,a₁,w₁,hq,.pass (x:=.inLoop c) rfl (fun _ _=>.inl (by simp)) nn⟩
 | outgrown=>exact⟨_,a₁,w₁,hq,.pass (x:=.inLoop c) rfl (fun _ _=>.inl (by simp)) nn⟩
theorem Bu {F:Fence}{n:Nat}{P:Program}{c:Code}{Q:Exit→Act→World→Prop}{a:Act}{w:World}(h:qA F n P c Q a w):(Code.loop c).wpIn F n P Q a w :=
 fun b k cs U0 hb hr=>let ⟨e,a',w',hq,nn⟩:=h b k cs U0 hb hr;⟨e,a',w',hq,.of_steps (.one (fenced_calm hb hr rfl) stepR_loop) nn⟩
section
variable {P:Program} {w0 w ws:World} {g g0:Ctx} {H H0 H':af} {R:ar} {a:Act} {n:Nat} {ops:Array Oper} {r:Option Nat} {mu:Bool} {i:Nat} {o:Oper} {st IY:List Rd}
theorem o8 {y:O}(hc:fD P n ops mu o st=some y):∀t∈tmpsOf o y.op y.g,t<n:=by
 obtain⟨op,gd,_,_,rfl,h,_⟩:=bq hc;exact h
theorem zD {d:Option Nat}{op:KG}{gd:Gd}(ho:ops[i]?=some o)(hc:fD P n ops mu o st=some ⟨d,op,gd,IY⟩)(hn:a.tmps.size=n)(hr:gA g w R a (tmpsOf o op gd))(hw:bL R gd=false)
  {K:Act→World→Prop} {Q:Exit→Act→World→Prop} (hk:K (a.put d undef) w):wpOpIn (Fw r) 0 P ops Q i K a w:=by
 obtain⟨MG,MH,h1,h2,h3,h4,h5⟩:=bq hc
 cases h3
 unfold wpOpIn
 simp only[ho,oE h2 hn (fun t ht=>h4 t (by simp[tmpsOf,ht])) (hr.sub fun t ht=>by simp[tmpsOf,ht]),hw]
 exact⟨fun _ _=>trivial,hk⟩
theorem gJ {d:Option Nat}{op:KG}{gd:Gd}(ho:ops[i]?=some o)(hc:fD P n ops mu o st=some ⟨d,op,gd,IY⟩)(hn:a.tmps.size=n)(hr:gA g w R a (tmpsOf o op gd))(hw:bL R gd=true)
  {K:Act→World→Prop} {Q:Exit→Act→World→Prop} (hk:o.wpIn (Fw r) 0 P a w K Q):wpOpIn (Fw r) 0 P ops Q i K a w:=by
 obtain⟨MG,MH,h1,h2,h3,h4,h5⟩:=bq hc
 cases h3
 unfold wpOpIn
 simp only[ho,oE h2 hn (fun t ht=>h4 t (by simp[tmpsOf,ht])) (hr.sub fun t ht=>by simp[tmpsOf,ht]),hw,if_true]
 exact hk
theorem lC {op:KG}{gd:Gd}(hr:gA g w R a (tmpsOf o op gd)):gA g w R a (eZ o.op.operands.toList):=hr.sub fun t ht=>by simp[tmpsOf,ht]
theorem zE {d:Option Nat}{b:Bo}{gd:Gd}{t:T}(ho:ops[i]?=some o)(hc:fD P n ops mu o st=some ⟨d,.b b,gd,IY⟩)(hn:a.tmps.size=n)(hr:gA g w R a (tmpsOf o (.b b) gd))(hw:bL R gd=true)
  (h:SR w0 g H w) (he:al R H b=some (t,H')) :
  ∃v w' g',(∀(K:Act→World→Prop) (Q:Exit→Act→World→Prop),K (a.put d v) w'→wpOpIn (Fw r) 0 P ops Q i K a w)∧Le g w g' w'∧SR w0 g' H' w'∧VR g' w' t v∧Fr g H g' H':=by
 obtain⟨MG,MH,h1,h2,h3,h4,h5⟩:=bq hc
 cases h3
 obtain⟨v,w',g',hs,rest⟩:=Dm (r:=r) h1 h (lC hr) he
 exact⟨v,w',g',fun K Q hk=>gJ ho hc hn hr hw (hs K Q hk),rest⟩
theorem we {d:Option Nat}{x:X}{gd:Gd}{b bi:Nat}{es:List (T×T)}{ix:List Nat}{cur:Option Nat}(ho:ops[i]?=some o)(hc:fD P n ops mu o st=some ⟨d,.b (.pD x),gd,IY⟩)(hn:a.tmps.size=n)(hr:gA g w R a (tmpsOf o (.b (.pD x)) gd))(hw:bL R gd=true)
  (h:SR w0 g H w) (hx:x.ev R=.ptr bi 0) (hb:H[b]?=some (.cQ es ix bi cur)) :
  ∃t H' v w' g',m5 H b bi es ix t H'∧(∀(K:Act→World→Prop) (Q:Exit→Act→World→Prop),K (a.put d v) w'→wpOpIn (Fw r) 0 P ops Q i K a w)∧Le g w g' w'∧SR w0 g' H' w'∧VR g' w' t v∧Fr g H g' H':=by
 obtain⟨MG,MH,h1,h2,h3,h4,h5⟩:=bq hc
 cases h3
 obtain⟨t,H',v,w',g',IT,hs,rest⟩:=Dn (r:=r) h1 h (lC hr) hx hb
 exact⟨t,H',v,w',g',IT,fun K Q hk=>gJ ho hc hn hr hw (hs K Q hk),rest⟩
theorem sS {d:Option Nat}{neg:Bool}{x y:X}{gd:Gd}(ho:ops[i]?=some o)(hc:fD P n ops mu o st=some ⟨d,.b (.mS neg .slice x y),gd,IY⟩)(hn:a.tmps.size=n)(hr:gA g w R a (tmpsOf o (.b (.mS neg .slice x y)) gd))(hw:bL R gd=true)
  (hx:x.ev R=.sl .arg []) (hy:y.ev R=.sl .nil []):∃b:Bool,∀(K:Act→World→Prop) (Q:Exit→Act→World→Prop),K (a.put d (.bool b)) w→wpOpIn (Fw r) 0 P ops Q i K a w:=by
 obtain⟨MG,MH,h1,h2,h3,h4,h5⟩:=bq hc
 cases h3
 obtain⟨b,hs⟩:=Bt (r:=r) h1 (lC hr) hx hy
 exact⟨b,fun K Q hk=>gJ ho hc hn hr hw (hs K Q hk)⟩
theorem sU {d:Option Nat}{f:Nat}{as:List X}{gd:Gd}{M:T→af→Prop}(ho:ops[i]?=some o)(hc:fD P n ops mu o st=some ⟨d,.call f as,gd,IY⟩)(hn:a.tmps.size=n)(hr:gA g w R a (tmpsOf o (.call f as) gd))(hw:bL R gd=true)
  (ih:∀args,bC g w (as.map (X.ev R)) args→dw P f=true∧CallsIn (Fw none) 0 P f args.toArray w (sR w0 g w H M)) {K:Act→World→Prop} {Q:Exit→Act→World→Prop}
  (hk:∀v w' g' H' t,M t H'→Le g w g' w'→SR w0 g' H' w'→VR g' w' t v→Fr g H g' H'→K (a.put d v) w'):wpOpIn (Fw r) 0 P ops Q i K a w:=by
 obtain⟨MG,MH,h1,h2,h3,h4,h5⟩:=bq hc
 cases h3
 obtain⟨args,hv,hs⟩:=Bm (r:=r) h1 (lC hr)
 obtain⟨k1,k2⟩:=ih args hv
 exact gJ ho hc hn hr hw (hs K Q k1 (k2.mono fun e w' ⟨v,t,g',H',he,hM,le,sr,fI,fr⟩=>⟨v,he,hk v w' g' H' t hM le sr fI fr⟩))
theorem qB {d:Option Nat}{x:X}{f:Nat}{cs:List T}{as:List X}{gd:Gd}{M:T→af→Prop}(ho:ops[i]?=some o)(hc:fD P n ops mu o st=some ⟨d,.bA x as,gd,IY⟩)(hn:a.tmps.size=n)(hr:gA g w R a (tmpsOf o (.bA x as) gd))(hw:bL R gd=true)
  (hx:x.ev R=.fn f cs) (ih:∀args,bC g w (as.map (X.ev R)++cs) args→dw P f=true∧CallsIn (Fw none) 0 P f args.toArray w (sR w0 g w H M)) {K:Act→World→Prop} {Q:Exit→Act→World→Prop}
  (hk:∀v w' g' H' t,M t H'→Le g w g' w'→SR w0 g' H' w'→VR g' w' t v→Fr g H g' H'→K (a.put d v) w'):wpOpIn (Fw r) 0 P ops Q i K a w:=by
 obtain⟨MG,MH,h1,h2,h3,h4,h5⟩:=bq hc
 cases h3
 obtain⟨args,hv,hs⟩:=ye (r:=r) h1 (lC hr) hx
 obtain⟨k1,k2⟩:=ih args hv
 exact gJ ho hc hn hr hw (hs K Q k1 (k2.mono fun e w' ⟨v,t,g',H',he,hM,le,sr,fI,fr⟩=>⟨v,he,hk v w' g' H' t hM le sr fI fr⟩))
theorem gU.put {d:Option Nat}{v:Value}{t:T}{w':World}{g':Ctx}(h:gU g w n R a)(hd:∀e,d=some e→e<n)(le:Le g w g' w')(hv:VR g' w' t v):gU g' w' n (bu R d t) (a.put d v):=by
 refine⟨by rw[qx];exact h.1,fun u hu=>?_⟩
 rw[qw _ _ _ _ (by rw[h.1];exact hd)]
 split
 ·rename_i e;rw[e,iG];exact hv
 ·rename_i e;rw[cC e];exact(h.2 u hu).mono le
theorem gU.rg (h:gU g w n R a){ts:List Nat}(ht:∀t∈ts,t<n):gA g w R a ts:=fun t hm=>h.2 t (ht t hm)
end
section
variable {P:Program} {n:Nat} {ops:Array Oper} {mu:Nat→Bool} {w0 ws:World} {df:List Deferred} {mk:T} {g0:Ctx} {H0:af} {pre:List It} {r:Option Nat} {x:It} {o:Oper} {Q:Out→af→Prop}
def left (L:Array Bool):Nat:=L.toList.count false
theorem qC {L:Array Bool}{i:Nat}(hi:i<L.size)(hf:L.getD i false=false):left (L.setIfInBounds i true)+1=left L:=by
 unfold left
 rw[Array.toList_setIfInBounds,List.count_set (by simpa using hi)]
 have hg:L.toList[i]'(by simpa using hi)=false:=by
  rw[Array.getD_eq_getD_getElem?,Array.getElem?_eq_getElem hi,Option.getD_some]at hf
  simpa using hf
 have Ms:0<L.toList.count false:=List.count_pos_iff.2 (hg▸List.getElem_mem _)
 rw[hg]
 have e1:((false==false:Bool)=true):=rfl
 have e2:¬((true==false:Bool)=true):=by decide
 rw[if_pos e1,if_neg e2]
 omega
theorem sV {L:Array Bool}(h:left L=0){i:Nat}(hi:i<L.size):L.getD i false=true:=by
 cases e:L.getD i false with
 | true=>rfl
 | false=>have:=qC hi e;omega
theorem sW {L:Array Bool}(a6:L.size=ops.size)(Mx:∀i o,ops[i]?=some o→∀j∈cB o,j<i)(h:Region.ready .any ops L=[]):∀i,i<ops.size→L.getD i false=true:=by
 intro i
 induction i using Nat.strongRecOn with
 | _ i ih =>
  intro hi
  cases e:L.getD i false with
  | true=>rfl
  | false =>
   have:i∈Region.ready .any ops L:=by
    rw[mem_ready]
    refine⟨?_,ops[i],Array.getElem?_eq_getElem hi,fun ed he hb=>?_⟩
    ·have ka:i<L.size:=by omega
     rw[Array.getD_eq_getD_getElem?,Array.getElem?_eq_getElem ka]at e ⊢;exact e
    ·have hj:ed.on∈cB ops[i]:=by simp only[cB,List.mem_map,List.mem_filter];exact⟨ed,⟨by simpa using he,hb⟩,rfl⟩
     have:=Mx i _ (Array.getElem?_eq_getElem hi) _ hj
     exact ih _ this (by omega)
   rw[h]at this;cases this
theorem Bv {R:ar}{H:af}(cr:∀i,i<ops.size→∃y∈pre,y.i=i)(hQ:Q (.ex .normal R) H):∀(fuel:Nat) (L:Array Bool) (g:Ctx) (a:Act) (w:World),left L≤fuel→Dr P n ops mu w0 df mk g0 ws H0 pre L g R H a w →
  wpAnyIn (Fw r) 0 P .any ops (yk w0 n df mk g0 ws H0 Q) fuel L a w:=by
 have fin:∀(L:Array Bool) (g:Ctx) (a:Act) (w:World),Dr P n ops mu w0 df mk g0 ws H0 pre L g R H a w→(∀i,i<ops.size→L.getD i false=true)→yk w0 n df mk g0 ws H0 Q .normal a w:=by
  intro L g a w h hl
  refine⟨.normal,R,g,H,rfl,hQ,h.le,h.sr,⟨h.vq,fun t ht=>h.uo t ht fun y hy hu=>?_⟩,h.fr,h.KP,h.KQ⟩
  obtain⟨o,ho,_⟩:=h.cmp y hy
  rw[hl y.i (Array.getElem?_eq_some_iff.1 ho).1]at hu;cases hu
 have Mx:∀(L:Array Bool) (g:Ctx) (a:Act) (w:World),Dr P n ops mu w0 df mk g0 ws H0 pre L g R H a w→∀i o,ops[i]?=some o→∀j∈cB o,j<i:=by
  intro L g a w h i o ho
  obtain⟨y,hy,rfl⟩:=cr i (Array.getElem?_eq_some_iff.1 ho).1
  exact h.rX y hy o ho
 intro fuel
 induction fuel with
 | zero =>
  intro L g a w hL h
  have hl:∀i,i<ops.size→L.getD i false=true:=fun i hi=>sV (by omega) (by rw[h.yf];exact hi)
  refine⟨?_,fin L g a w h hl⟩
  refine List.eq_nil_iff_forall_not_mem.2 fun i hi=>?_
  obtain⟨h1,o,h2,_⟩:=lB hi
  rw[hl i (Array.getElem?_eq_some_iff.1 h2).1]at h1;cases h1
 | succ fuel ih =>
  intro L g a w hL h
  refine⟨fun hr=>fin L g a w h (sW h.yf (Mx L g a w h) hr),fun i hi=>?_⟩
  obtain⟨h1,o,h2,_⟩:=lB hi
  have au:=(Array.getElem?_eq_some_iff.1 h2).1
  obtain⟨y,hy,rfl⟩:=cr i au
  obtain⟨v,w',g',hs,hd⟩:=h.late (r:=r) hy hi
  have:=qC (by rw[h.yf];exact au) h1
  exact hs _ _ (ih _ _ _ _ (by omega) hd)
theorem e9 {R:ar}{H:af}{Tl:ar→af→Prop}{Qx:Exit→Act→World→Prop}{l:List It}(hd:Hd P n ops mu pre x o)(hx:x.early=false)(cr:∀i,i<ops.size→∃y∈pre++x :: l,y.i=i)
  (QI:∀y∈l,(∃o,ops[y.i]?=some o∧(∀j∈cB o,j<y.i))∧∀z∈pre++[x],z.early=true∨((eG ops.toList []).getD y.i 0).testBit z.i=true)
  (hT:∀R' H',Tl R' H'→∀fuel L' g' a' w',left L'≤fuel→Dr P n ops mu w0 df mk g0 ws H0 (pre++[x]) L' g' R' H' a' w'→wpAnyIn (Fw r) 0 P .any ops Qx fuel L' a' w')
  (hX:∀L g a w,Dr P n ops mu w0 df mk g0 ws H0 pre L g R H a w→(∀j∈cB o,L.getD j false=true)→∀K:Act→World→Prop,
   (∀R' H' g' a' w',Tl R' H'→Dr P n ops mu w0 df mk g0 ws H0 (pre++[x]) (L.setIfInBounds x.i true) g' R' H' a' w'→K a' w')→wpOpIn (Fw r) 0 P ops Qx x.i K a w) :
  ∀(fuel:Nat) (L:Array Bool) (g:Ctx) (a:Act) (w:World),left L≤fuel→Dr P n ops mu w0 df mk g0 ws H0 pre L g R H a w→wpAnyIn (Fw r) 0 P .any ops Qx fuel L a w:=by
 have G7:x.i<ops.size:=(Array.getElem?_eq_some_iff.1 hd.ho).1
 intro fuel
 induction fuel with
 | zero =>
  intro L g a w hL h
  have h1:=h.mD hd
  rw[sV (by omega) (by rw[h.yf];exact G7)]at h1;cases h1
 | succ fuel ih =>
  intro L g a w hL h
  have CU:=h.mD hd
  refine⟨fun hr=>?_,fun i hi=>?_⟩
  ·have hl:=sW h.yf (fun i o' mz j hj=>?_) hr x.i G7
   ·rw[hl]at CU;cases CU
   ·obtain⟨y,hy,rfl⟩:=cr i (Array.getElem?_eq_some_iff.1 mz).1
    rcases List.mem_append.1 hy with hy|hy
    ·exact h.rX y hy o' mz j hj
    ·rcases List.mem_cons.1 hy with rfl|hy
     ·rw[hd.ho]at mz;cases mz;exact(hd.pred j hj).1
     ·obtain⟨⟨o2,h2,h3⟩,_⟩:=QI y hy
      rw[h2]at mz;cases mz;exact h3 j hj
  ·obtain⟨h1,o',h2,h3⟩:=lB hi
   have au:=(Array.getElem?_eq_some_iff.1 h2).1
   have acq:=qC (by rw[h.yf];exact au) h1
   obtain⟨y,hy,rfl⟩:=cr i au
   rcases List.mem_append.1 hy with hy|hy
   ·obtain⟨v,w',g',hs,Wk⟩:=h.late (r:=r) hy hi
    exact hs _ _ (ih _ _ _ _ (by omega) Wk)
   ·rcases List.mem_cons.1 hy with rfl|hy
    ·rw[hd.ho]at h2;cases h2
     exact hX L g a w h h3 _ fun R' H' g' a' w' ht Wk=>hT R' H' ht fuel _ g' a' w' (by omega) Wk
    ·obtain⟨⟨o2,h4,h5⟩,h6⟩:=QI y hy
     rw[h2]at h4;cases h4
     rcases h6 x (by simp)with h7|h7
     ·rw[hx]at h7;cases h7
     ·have:=h.bit h2 (fun j hj=>⟨h5 j hj,h3 j hj⟩) h7
      rw[CU]at this;cases this
end
def Wl (P : Program) : J → af → (Out → af → Prop) → Prop
  | .code c R, H, Q => ∀(w0 : World) (g : Ctx) (w : World) (a : Act) (n : Nat) (an : An) (top : Bool) (code : Code) (r : Option Nat), bB P n an top code = some c → (top = true → r = none) → fU P g → SR w0 g H w → gU g w n R a →
      code.wpIn (Fw r) 0 P (kQ w0 n c.lT a.defers (R n) g w H Q) a w ∧ ∀body, code = .loop body → qA (Fw r) 0 P body (kQ w0 n c.lT a.defers (R n) g w H Q) a w
  | .ops l R, H, Q => (∀(w0 : World) (g0 : Ctx) (ws : World) (H0 : af) (g : Ctx) (w : World) (a : Act) (n : Nat) (ops : Array Oper) (mu : Nat → Bool) (is : List Nat) (r : Option Nat), fQ P n ops mu is = some l → fU P g → SR w0 g H w → gU g w n R a →
        Le g0 ws g w → Fr g0 H0 g H → wpOpsIn (Fw r) 0 P ops (yk w0 n a.defers (R n) g0 ws H0 Q) is a w) ∧
      (∀(w0 : World) (n : Nat) (ops : Array Oper) (mu : Nat → Bool) (df : List Deferred) (mk : T) (g0 : Ctx) (ws : World) (H0 : af) (pre : List It) (L : Array Bool) (g : Ctx) (a : Act) (w : World) (ord : List (Nat×Bool)) (jF : List It) (r : Option Nat) (fuel : Nat),
        fU P g → dL P n ops mu (eG ops.toList []) pre ord = some jF → jF.map (·.o) = l → Dr P n ops mu w0 df mk g0 ws H0 pre L g R H a w → left L ≤ fuel → wpAnyIn (Fw r) 0 P .any ops (yk w0 n df mk g0 ws H0 Q) fuel L a w)
  | .call f as, H, Q => ∀(w0 : World) (g : Ctx) (w : World) (args : List Value), fU P g → SR w0 g H w → bC g w as args → dw P f = true ∧ CallsIn (Fw none) 0 P f args.toArray w (sR w0 g w H fun v H' => Q (.val v) H')
theorem kQ.trans {w0 w w':World}{n:Nat}{hr n6:Bool}{df Wm:List Deferred}{mk mk':T}{g g':Ctx}{H H':af}{Q:Out→af→Prop}(le:Le g w g' w')(fr:Fr g H g' H')(hm:Mk g mk df→Mk g' mk' Wm)(hh:hr=false→n6=false∧mk'=mk∧Wm=df)
  {e:Exit} {a:Act} {u:World} (h:kQ w0 n n6 Wm mk' g' w' H' Q e a u):kQ w0 n hr df mk g w H Q e a u:=by
 obtain⟨ex,R',g2,H2,h1,h2,h3,h4,h5,h6,h7,h8⟩:=h
 refine⟨ex,R',g2,H2,h1,h2,le.trans h3,h4,h5,fr.trans h6,fun m=>h7 (hm m),fun e=>?_⟩
 obtain⟨k1,k2,k3⟩:=hh e
 obtain⟨k4,k5⟩:=h8 k1
 exact⟨k4.trans k2,k5.trans k3⟩
theorem yk.toC {w0 w:World}{n:Nat}{hr:Bool}{df:List Deferred}{mk:T}{g:Ctx}{H:af}{Q:Out→af→Prop}{e:Exit}{a:Act}{u:World}(h:yk w0 n df mk g w H Q e a u):kQ w0 n hr df mk g w H Q e a u:=by
 obtain⟨ex,R',g2,H2,h1,h2,h3,h4,h5,h6,h7,h8⟩:=h
 exact⟨ex,R',g2,H2,h1,h2,h3,h4,h5,h6,fun m=>by rw[h7,h8];exact m.mono h3,fun _=>⟨h8,h7⟩⟩
section
variable {P:Program} {n:Nat} {an:An} {top:Bool} {code:Code}
theorem Dv (h:bB P n an top code=some .skip):code=.skip:=by
 cases code<;>(try simp only[bB]at h)
 case region id ops draw=>cases draw<;>simp only[bB]at h<;>(repeat' split at h)<;>simp at h
 all_goals first|rfl|(cases h;done)|((repeat' split at h)<;>simp at h;done)|(simp at h;done)
theorem Dw {id:Nat}(h:bB P n an top code=some (.exit id)):code=.exit id:=by
 cases code<;>(try simp only[bB]at h)
 case region id ops draw=>cases draw<;>simp only[bB]at h<;>(repeat' split at h)<;>simp at h
 all_goals first|(cases h;rfl)|(cases h;done)|((repeat' split at h)<;>simp at h;done)|(simp at h;done)
theorem IZ (h:bB P n an top code=some .ret):code=.ret:=by
 cases code<;>(try simp only[bB]at h)
 case region id ops draw=>cases draw<;>simp only[bB]at h<;>(repeat' split at h)<;>simp at h
 all_goals first|rfl|(cases h;done)|((repeat' split at h)<;>simp at h;done)|(simp at h;done)
theorem I0 {x y:C}(h:bB P n an top code=some (.seq x y)):∃c d,code=.seq c d∧bB P n an top c=some x∧bB P n an top d=some y:=by
 cases code<;>(try simp only[bB]at h)
 case region id ops draw=>cases draw<;>simp only[bB]at h<;>(repeat' split at h)<;>simp at h
 case seq c d =>
  split at h
  ·rename_i h1 h2;cases h;exact⟨c,d,rfl,h1,h2⟩
  ·cases h
 all_goals first|(cases h;done)|((repeat' split at h)<;>simp at h;done)|(simp at h;done)
theorem Dx {c:X}{x y:C}(h:bB P n an top code=some (.cond c x y)):∃o d e,code=.cond o d e∧aK o=some c∧bB P n an top d=some x∧bB P n an top e=some y∧∀t,o=.tmp t→t<n:=by
 cases code<;>(try simp only[bB]at h)
 case region id ops draw=>cases draw<;>simp only[bB]at h<;>(repeat' split at h)<;>simp at h
 case cond o d e =>
  split at h
  ·rename_i h1 h2 h3
   cases o with
   | tmp t =>
    simp only[decide_eq_true_eq]at h
    split at h
    ·rename_i h4;cases h;exact⟨_,d,e,rfl,h1,h2,h3,fun t' ht=>by cases ht;exact h4⟩
    ·cases h
   | _=>simp at h;obtain⟨rfl,rfl,rfl⟩:=h;exact⟨_,d,e,rfl,h1,h2,h3,fun t ht=>by cases ht⟩
  ·cases h
 all_goals first|(cases h;done)|((repeat' split at h)<;>simp at h;done)|(simp at h;done)
theorem Bw {id:Nat}{x:C}(h:bB P n an top code=some (.block id x)):∃c,code=.block id c∧bB P n an top c=some x:=by
 cases code<;>(try simp only[bB]at h)
 case region id ops draw=>cases draw<;>simp only[bB]at h<;>(repeat' split at h)<;>simp at h
 case block id' c =>
  simp only[Option.map_eq_some_iff]at h
  obtain⟨x',h1,h2⟩:=h
  cases h2;exact⟨c,rfl,h1⟩
 all_goals first|(cases h;done)|((repeat' split at h)<;>simp at h;done)|(simp at h;done)
theorem Dy {x:C}(h:bB P n an top code=some (.loop x)):∃c,code=.loop c∧bB P n an top c=some x:=by
 cases code<;>(try simp only[bB]at h)
 case region id ops draw=>cases draw<;>simp only[bB]at h<;>(repeat' split at h)<;>simp at h
 case loop c =>
  simp only[Option.map_eq_some_iff]at h
  obtain⟨x',h1,h2⟩:=h
  cases h2;exact⟨c,rfl,h1⟩
 all_goals first|(cases h;done)|((repeat' split at h)<;>simp at h;done)|(simp at h;done)
theorem Bx {m:Nat}{x:X}{ps:List Nat}{y z:C}(h:bB P n an top code=some (.cJ m x ps y z)):∃g qs c d,code=.rangeFunc g qs c d∧aK g=some x∧bB P n an false c=some y∧bB P n an false d=some z∧top=true∧(∀t∈dK x,t<n)∧qs.toList=ps∧(∀p∈ps,p<n)∧m=n:=by
 cases code<;>(try simp only[bB]at h)
 case region id ops draw=>cases draw<;>simp only[bB]at h<;>(repeat' split at h)<;>simp at h
 case rangeFunc g qs c d =>
  split at h
  ·rename_i h1 h2 h3
   split at h
   ·rename_i h4
    cases h
    simp only[Bool.and_eq_true,List.all_eq_true,decide_eq_true_eq]at h4
    exact⟨g,qs,c,d,rfl,h1,h2,h3,h4.1.1,h4.1.2,rfl,h4.2,rfl⟩
   ·cases h
  ·cases h
 all_goals first|(cases h;done)|((repeat' split at h)<;>simp at h;done)|(simp at h;done)
theorem I1 {l:List O}(h:bB P n an top code=some (.ops l)):∃id ops mu,(code=.region id ops false∧fQ P n ops mu (List.range ops.size)=some l) ∨
  (code=.region id ops true∧∃ord jF,dL P n ops mu (eG ops.toList []) [] ord=some jF∧jF.map (·.o)=l):=by
 cases code<;>(try simp only[bB]at h)
 case region id ops draw =>
  cases draw<;>simp only[bB]at h
  ·simp only[Option.map_eq_some_iff]at h
   obtain⟨l',h1,h2⟩:=h
   cases h2;exact⟨id,ops,_,.inl ⟨rfl,h1⟩⟩
  ·split at h
   ·rename_i ord _
    simp only[Option.map_eq_some_iff]at h
    obtain⟨jF,h1,h2⟩:=h
    cases h2;exact⟨id,ops,_,.inr ⟨rfl,ord,jF,h1,rfl⟩⟩
   ·cases h
 all_goals first|(cases h;done)|((repeat' split at h)<;>simp at h;done)|(simp at h;done)
end
theorem dt {P:Program}{n:Nat}{ops:Array Oper}{mu:Nat→Bool}{is:List Nat}{o:O}{l:List O}(h:fQ P n ops mu is=some (o :: l)) :
  ∃i sX oper,is=i :: sX∧ops[i]?=some oper∧fD P n ops (mu i) oper []=some o∧fQ P n ops mu sX=some l:=by
 cases is with
 | nil=>simp[fQ]at h
 | cons i sX =>
  simp only[fQ]at h
  split at h
  ·rename_i oper ho
   split at h
   ·rename_i h1 h2;cases h;exact⟨i,sX,oper,rfl,ho,h1,h2⟩
   ·cases h
  ·cases h
theorem wh {P:Program}{n:Nat}{ops:Array Oper}{mu:Nat→Bool}{is:List Nat}(h:fQ P n ops mu is=some []):is=[]:=by
 cases is with
 | nil=>rfl
 | cons i sX =>
  simp only[fQ]at h
  split at h
  ·split at h<;>simp at h
  ·cases h
theorem gV {P:Program}{n:Nat}{ops:Array Oper}{mu:Nat→Bool}{pre:List It}{ord:List (Nat×Bool)}{jF:List It}{o:O}{l:List O}(h:dL P n ops mu (eG ops.toList []) pre ord=some jF)(hm:jF.map (·.o)=o :: l) :
  ∃x l' fM oper,jF=x :: l'∧x.o=o∧l'.map (·.o)=l∧Hd P n ops mu pre x oper∧dL P n ops mu (eG ops.toList []) (pre++[x]) fM=some l':=by
 cases ord with
 | nil =>
  simp only[dL]at h
  split at h
  ·cases h;simp at hm
  ·cases h
 | cons y fM =>
  obtain⟨x,l',oper,rfl,h1,h2⟩:=jJ h
  simp only[List.map_cons,List.cons.injEq]at hm
  exact⟨x,l',fM,oper,rfl,hm.1,hm.2,h1,h2⟩
section
variable {P:Program} {n:Nat} {ops:Array Oper} {mu:Nat→Bool} {w0 w ws:World} {df:List Deferred} {mk:T} {g g0:Ctx} {H H0 H':af} {pre:List It} {L:Array Bool} {R:ar} {a:Act} {r:Option Nat} {x:It} {o:Oper}
theorem Hd.sub (hd:Hd P n ops mu pre x o)(v:T):(∀t∈me x.o.g,bu R x.o.d v t=R t)∧∀t∈zy x.o.op,bu R x.o.d v t=R t:=by
 obtain⟨t1,t2,_⟩:=gC hd.ts
 exact⟨fun t ht=>cC fun e=>(hd.dst t e).2 (t1 t ht),fun t ht=>cC fun e=>(hd.dst t e).2 (t2 t ht)⟩
theorem Dr.I2 (h:Dr P n ops mu w0 df mk g0 ws H0 pre L g R H a w)(hd:Hd P n ops mu pre x o)(he:x.early=true)(hw:bL R x.o.g=false):Dr P n ops mu w0 df mk g0 ws H0 (pre++[x]) L g (bu R x.o.d bX) H a w:=by
 refine h.take hd he (.inl ⟨?_,fun d e=>by rw[e,iG]⟩) (.inl rfl) fun k hk=>?_
 ·rw[kO (R':=R) (hd.sub bX).1];exact hw
 ·unfold jI at hk
  split at hk
  ·rename_i e _;rw[e,iG]at hk;cases hk
  ·rename_i e _;rw[e,iG]at hk;cases hk
  ·cases hk
theorem Dr.I3 {b:Bo}{v:T}(h:Dr P n ops mu w0 df mk g0 ws H0 pre L g R H a w)(hd:Hd P n ops mu pre x o)(he:x.early=true)(hb:x.o.op=.b b)(hw:bL R x.o.g=true)(hv:al R H b=some (v,H')) :
  Dr P n ops mu w0 df mk g0 ws H0 (pre++[x]) L g (bu R x.o.d v) H' a w:=by
 obtain⟨k1,k2⟩:=hd.kl he
 cases I4:x.o.d with
 | none=>exact absurd (by simp[He,hb,I4]) k1
 | some d =>
  have U1:He x.o=qt b:=by simp[He,hb,I4]
  rw[U1]at k1 k2
  have A9:bL (bu R x.o.d v) x.o.g=true:=by rw[kO (R':=R) (hd.sub v).1];exact hw
  have I5:∀H2,al (bu R x.o.d v) H2 b=al R H2 b:=fun H2=>qv fun t ht=>(hd.sub v).2 t (by rw[hb];exact ht)
  have MI:bu R x.o.d v d=v:=by rw[I4,iG]
  rw[←I4]
  have hq:(qt b=.pure∨qt b=.read)→H'=H→Dr P n ops mu w0 df mk g0 ws H0 (pre++[x]) L g (bu R x.o.d v) H' a w:=by
   rintro hk rfl
   refine h.take hd he (.inr ⟨A9,d,b,I4,hb,.inl ⟨hk,by rw[I5,MI];exact hv⟩⟩) (.inl rfl) fun k hm=>?_
   unfold jI at hm
   rw[hb]at hm
   split at hm
   ·rename_i h1;cases h1;simp[qt]at hk
   ·rename_i h1;cases h1;simp[qt]at hk
   ·cases hm
  cases hk:qt b with
  | MA=>exact absurd hk k1
  | pure=>exact hq (.inl hk) (sM hk hv).1
  | read=>exact hq (.inr hk) (sN hk hv).1
  | make =>
   have hln:H0.length≤H.length:=h.fr.1
   cases b<;>simp only[qt]at hk<;>(try (cases hk;done))
   case mS=>split at hk<;>cases hk
   case alloc z =>
    simp only[al,Option.some.injEq,Prod.mk.injEq]at hv
    obtain⟨rfl,rfl⟩:=hv
    refine h.take hd he (.inr ⟨A9,d,_,I4,hb,.inr (.inl ⟨H.length,z,rfl,MI,fq _ _,h.sr.HX (Nat.le_refl _),hln⟩)⟩) (.inr ⟨_,rfl,.inl ⟨_,rfl⟩⟩) fun k hm=>?_
    simp only[jI,I4,hb,iG,mh,Option.some.injEq]at hm
    omega
   case zd =>
    simp only[al,Option.some.injEq,Prod.mk.injEq]at hv
    obtain⟨rfl,rfl⟩:=hv
    refine h.take hd he (.inr ⟨A9,d,_,I4,hb,.inr (.inr ⟨H.length,rfl,MI,fq _ _,h.sr.HX (Nat.le_refl _),hln⟩)⟩) (.inr ⟨_,rfl,.inr ⟨_,rfl⟩⟩) fun k hm=>?_
    simp only[jI,I4,hb,iG,mh,Option.some.injEq]at hm
    omega
theorem Dr.fb (h:Dr P n ops mu w0 df mk g0 ws H0 pre L g R H a w)(hd:Hd P n ops mu pre x o)(hp:∀j∈cB o,L.getD j false=true):gA g w R a (tmpsOf o x.o.op x.o.g) :=
 h.look hd.ho (fun j hj=>⟨(hd.pred j hj).1,hp j hj⟩) (o8 hd.co) fun z hz _ d pL ht=>hd.Wh z hz d pL (by rw[hd.ts];exact ht)
theorem Dr.stays (h:Dr P n ops mu w0 df mk g0 ws H0 pre L g R H a w)(hd:Hd P n ops mu pre x o)(he:x.early=false)(hp:∀j∈cB o,L.getD j false=true)(hs:jy R H' x.o.AO) :
  ∀y∈pre,L.getD y.i false=false→∀d b,bL R y.o.g=true→y.o.d=some d→y.o.op=.b b→qt b=.read→al R H b=some (R d,H)→al R H' b=some (R d,H'):=by
 intro y hy hu d b hw IU hyb hk _
 have zA:y.early=true:=by cases e:y.early with|true=>rfl|false=>rw[h.qy y hy e]at hu;cases hu
 have Wn:((eG ops.toList []).getD x.i 0).testBit y.i=false:=by
  cases e:((eG ops.toList []).getD x.i 0).testBit y.i with
  | false=>rfl
  | true=>rw[h.bit hd.ho (fun j hj=>⟨(hd.pred j hj).1,hp j hj⟩) e]at hu;cases hu
 have hm:=qz pre hy zA IU hyb hk Wn
 rw[←hd.st he]at hm
 exact hs _ hm hw
end
theorem wo {g:Ctx}{w:World}{n:Nat}:∀(ps:List Nat) (vs:List T) (us:List Value) (R:ar) (tmps:Array Value),bC g w vs us→vs.length=ps.length→tmps.size=n→(∀t,t<n→VR g w (R t) (tmps.getD t undef))→(∀p∈ps,p<n) →
  ((ps.zip us).foldl (fun tmps (t,a)=>tmps.setIfInBounds t a) tmps).size=n∧∀t,t<n→VR g w (iv R ps vs t) (((ps.zip us).foldl (fun tmps (t,a)=>tmps.setIfInBounds t a) tmps).getD t undef)
 | [],vs,us,R,tmps,hv,hl,hn,hr,_=>by
  cases vs with
  | nil=>exact⟨by simpa using hn,by simpa[iv]using hr⟩
  | cons _ _=>simp at hl
 | p :: ps,[],us,R,tmps,hv,hl,hn,hr,_=>by simp at hl
 | p :: ps,v :: vs,[],R,tmps,hv,hl,hn,hr,_=>by have:=hv.1;simp at this
 | p :: ps,v :: vs,u :: us,R,tmps,hv,hl,hn,hr,hp=>by
  simp only[List.zip_cons_cons,List.foldl_cons,iv]
  refine wo ps vs us (nX R p v) (tmps.setIfInBounds p u) hv.tail (by simpa using hl) (by simpa using hn) (fun t ht=>?_) (fun q hq=>hp q (by simp[hq]))
  have xG:p<tmps.size:=by rw[hn];exact hp p (by simp)
  by_cases e:p=t
  ·subst e;simp only[nX,if_true];rw[Array.getD_eq_getD_getElem?];simp[xG];exact hv.head
  ·simp only[nX];rw[if_neg (Ne.symm e),Array.getD_eq_getD_getElem?,Array.getElem?_setIfInBounds_ne e,←Array.getD_eq_getD_getElem?];exact hr t ht
section
variable {P:Program} {w0 w ws:World} {g g0:Ctx} {H H0 H':af} {R:ar} {a:Act} {n:Nat} {ops:Array Oper} {r:Option Nat} {mu:Bool} {i:Nat} {o:Oper} {st IY:List Rd}
theorem Dz {e:Ex}(h:e≠.normal):(∃id,e=.exit id∧vD (some e)=some (.exit id))∨(e=.ret∧vD (some e)=some .ret):=by
 cases e with
 | normal=>exact absurd rfl h
 | exit id=>exact .inl ⟨id,rfl,rfl⟩
 | ret=>exact .inr ⟨rfl,rfl⟩
theorem wq {d:Option Nat}{x:X}{as:List X}{gd:Gd}{b m:Nat}{R0:ar}{ps:List Nat}{bZ body:C}{M1 M:Out→af→Prop}(ho:ops[i]?=some o)(hc:fD P n ops mu o st=some ⟨d,.bA x as,gd,IY⟩)(hn:a.tmps.size=n)(hr:gA g w R a (tmpsOf o (.bA x as) gd))(hw:bL R gd=true)
  (hx:x.ev R=.mR b) (hb:H[b]?=some (.loop .ready none m R0 ps bZ body)) (hlen:as.length=ps.length) (ck:fU P g) (sr:SR w0 g H w)
  (vt:Wl P (.code bZ (iv R0 ps (as.map (X.ev R)))) H M1) (AU:∀o H',M1 o H'→(∃R1,o=.ex .normal R1)∧H'[b]?=some (.loop .ready none m R0 ps bZ body))
  (mX:∀R1 H1,M1 (.ex .normal R1) H1→Wl P (.code body R1) (H1.set b (.loop .busy none m R0 ps bZ body)) M) (AV:∀o H',M o H'→H'[b]?=some (.loop .busy none m R0 ps bZ body))
  {K:Act→World→Prop} {Q:Exit→Act→World→Prop}
  (hk:∀v w' g' H' t,((∃R' H2,M (.ex .normal R') H2∧t=.bool true∧H'=H2.set b (.loop .ready none m R0 ps bZ body))∨(∃e R' H2,M (.ex e R') H2∧e≠.normal∧t=.bool false∧H'=H2.set b (.loop .done (some e) m R0 ps bZ body))) →
   Le g w g' w'→SR w0 g' H' w'→VR g' w' t v→Fr g H g' H'→K (a.put d v) w'):wpOpIn (Fw r) 0 P ops Q i K a w:=by
 obtain⟨MG,MH,h1,h2,h3,h4,h5⟩:=bq hc
 cases h3
 refine gJ ho hc hn hr hw ⟨fun _ _=>trivial,?_⟩
 have fB:=gI h1
 obtain⟨t,args,iB,rfl,PF,h6⟩:=mg h1
 have pb:=lC hr
 have hv:=fK (ρ:=a.eval) args.toList as h6 (sP (pb.sub fun t ht=>by
  simp only[eZ,List.mem_filterMap]at ht ⊢
  obtain⟨x,hx,e⟩:=ht
  exact⟨x,by rw[PF];simp only[Op.operands,Call.operands];simp at hx;simp[hx],e⟩))
 have hf:=pb t (by rw[PF];simp only[eZ,List.mem_filterMap];exact⟨.tmp t,by simp[Op.operands,Call.operands],rfl⟩)
 simp only[X.ev]at hx
 rw[hx]at hf
 generalize IP:a.tmps.getD t undef=vf at hf
 cases hf with
 | @mR _ l o' q' hφ =>
  obtain⟨k1,rec,k2,k3,k4,k5,k6,k7,k8,k9,Wo⟩:=sr.dQ b _ hb l o' q' hφ
  rw[Oper.semAt_eq _ _ _ fB]
  have a6:(args.toList.map a.eval).toArray.size=rec.params.size:=by
   have:=hv.1;simp at this
   have e2:rec.params.size=ps.length:=by rw[←k5];simp
   simp[e2,←hlen,this]
  have cw:(execOp a.eval o).run P w=.ok (.round l rec.fn ((rec.params.zip (args.toList.map a.eval).toArray).foldl (fun tmps (t,a)=>tmps.setIfInBounds t a) rec.tmps) rec.assign rec.body) w:=by
   have hy:=run_yield (P:=P) (args:=(args.toList.map a.eval).toArray) k2 a6
   have e2:(args.toList.map a.eval).toArray=args.map a.eval:=by rw[←Array.toList_map]
   rw[e2]at hy ⊢
   have e:a.eval (.tmp t)=.func (.yield l) #[] #[]:=IP
   simp only[execOp,PF,resolve,e,Deferred.ofValue,invoke]
   simpa using hy
  rw[cw,Oper.uponIn_round]
  refine⟨fun h=>by simp[Fw]at h,roundIn_of_wpIn trivial ?_⟩
  have Cq:(rec.params.zip (args.toList.map a.eval).toArray).foldl (fun tmps (t,a)=>tmps.setIfInBounds t a) rec.tmps=(ps.zip (args.toList.map a.eval)).foldl (fun tmps (t,a)=>tmps.setIfInBounds t a) rec.tmps:=by
   rw[←Array.foldl_toList,Array.toList_zip,k5]
  rw[Cq]
  have kH:=wo ps (as.map (X.ev R)) (args.toList.map a.eval) R0 rec.tmps hv (by simpa using hlen) k6 k7 k8
  obtain⟨an1,jw⟩:=(ck _ _ _).1 k9
  obtain⟨an2,po⟩:=(ck _ _ _).1 Wo
  refine wpIn_mono (vt w0 g w { tmps:=(ps.zip (args.toList.map a.eval)).foldl (fun tmps (t,a)=>tmps.setIfInBounds t a) rec.tmps,defers:=[] } m an1 false rec.assign (some l) jw (by simp) ck sr kH).1 fun e a1 w1 hp=>?_
  obtain⟨ex,R1,g1,H1,e1,hm,eY,Mu,Cr,Wp,-,-⟩:=hp
  obtain⟨⟨R1',hR1⟩,ko⟩:=AU _ _ hm
  cases hR1
  cases e<;>simp only[rY,Option.some.injEq,reduceCtorEq]at e1
  have PH:=eY.φ _ _ hφ
  obtain⟨j1,Wq,j2,j3,j4,j5,j6,j7,j8,j9,j10⟩:=Mu.dQ b _ ko l o' q' PH
  refine⟨_,run_beginRound j2 j3,?_⟩
  obtain⟨I6,KR,zF⟩:=Mu.uk (y':=.loop .busy none m R0 ps bZ body) (x':=.loop { Wq with state:=.busy }) ko PH j1 j2 rfl rfl (fun w' le A9 r o q hq=>by
   rw[PH]at hq;cases hq
   exact⟨j1,_,A9,rfl,j4,j5,j6,fun t ht=>(j7 t ht).mono le,j8,j9,j10⟩)
  refine wpIn_mono (mX _ _ hm w0 g1 _ a1 m an2 false rec.body (some l) po (by simp) (ck.mono eY) KR ⟨Cr.1,fun t ht=>(Cr.2 t ht).mono I6⟩).1 fun e2 a2 w3 lV=>?_
  obtain⟨U2,R2,g2,H2,e3,MJ,zG,Bz,xH,Cs,-,-⟩:=lV
  have kb:=AV _ _ MJ
  have zr:=zG.φ _ _ PH
  obtain⟨i1,Wr,i2,i3,i4,i5,i6,i7,i8,i9,i10⟩:=Bz.dQ b _ kb l o' q' zr
  have fin:∀(jump:Option Code) (st:L4) (pe:Option Ex) (v:Bool),vD pe=jump→st.real=(if jump.isNone then .ready else .done)→v=jump.isNone →
    ((v=true∧U2=.normal∧st=.ready∧pe=none)∨(v=false∧U2≠.normal∧st=.done∧pe=some U2)) →
    ∃v' w',(Instr.endRound l jump).run P w3=.ok v' w'∧K (a.put o.dst v') w':=by
   intro jump st pe v q1 q2 q3 q4
   obtain⟨Hg,Hi,Ct⟩:=Bz.uk (y':=.loop st pe m R0 ps bZ body) (x':=.loop { Wr with state:=if jump.isNone then .ready else .done,pending:=jump }) kb zr i1 i2 rfl rfl (fun w' le A9 r o q hq=>by
    rw[zr]at hq;cases hq
    exact⟨i1,_,A9,q2.symm,q1.symm,i5,i6,fun t ht=>(i7 t ht).mono le,i8,i9,i10⟩)
   refine⟨_,_,run_endRound jump i2,?_⟩
   refine hk _ _ g2 (H2.set b (.loop st pe m R0 ps bZ body)) (.bool v) ?_ (((eY.trans I6).trans zG).trans Hg) Hi (by rw[←q3];exact .bool v) (((Wp.trans zF).trans Cs).trans Ct)
   rcases q4 with⟨rfl,rfl,rfl,rfl⟩|⟨rfl,bG,rfl,rfl⟩
   ·exact .inl ⟨R2,H2,MJ,rfl,rfl⟩
   ·exact .inr ⟨U2,R2,H2,MJ,bG,rfl,rfl⟩
  cases e2<;>simp only[rY,Option.some.injEq,reduceCtorEq]at e3<;>subst e3
  case normal=>exact fin none .ready none true rfl rfl rfl (.inl ⟨rfl,rfl,rfl,rfl⟩)
  case exit id=>exact fin (some (.exit id)) .done (some (.exit id)) false rfl rfl rfl (.inr ⟨rfl,by simp,rfl,rfl⟩)
  case ret=>exact fin (some .ret) .done (some .ret) false rfl rfl rfl (.inr ⟨rfl,by simp,rfl,rfl⟩)
end
theorem ur {P:Program}{w0:World}{F:Func}{n:Nat}{t0:T}{res:List Rs}:∀(ts:List T) (df:List Deferred) (bs:List Nat) (g:Ctx) (H:af) (w:World) (R:ar) (a:Act) (Rr:Ending→World→Prop),
  v8 g ts df→qa ts=some bs→bs.Nodup→(∀b∈bs,H[b]?=some .zf)→SR w0 g H w→gU g w n R a →
  (∀w' v,Le g w g w'→SR w0 g (kill H bs) w'→gU g w' n R a→Fr g H g (kill H bs)→(results F a.tmps).run P w'=.ok v w'→VR g w' t0 v→Rr (.returned v) w') →
  pn R (kill H bs) res=some t0→(∀(g:Ctx) (w:World) (H:af),SR w0 g H w→gU g w n R a→pn R H res=some t0→∃v,(results F a.tmps).run P w=.ok v w∧VR g w t0 v) →
  LeavesInM (Fw none) 0 P F a.tmps Rr df .returning w:=by
 intro ts
 induction ts with
 | nil =>
  intro df bs g H w R a Rr hm hb _ _ sr hr hk qD cw
  cases hm
  simp only[qa,Option.some.injEq]at hb;subst hb
  obtain⟨v,h1,h2⟩:=cw g w H sr hr qD
  exact⟨v,h1,hk w v (.refl _ _) sr hr (.refl _ _) h1 h2⟩
 | cons t ts ih =>
  intro df bs g H w R a Rr hm hb fB I7 sr hr hk qD cw
  cases hm with
  | @cons b r o q _ df hφ QJ =>
   simp only[qa,CK]at hb
   split at hb
   ·rename_i b' bs' e1 e2
    cases e1
    cases hb
    have hdb:=I7 b (by simp)
    obtain⟨k1,k2⟩:=sr.dQ b _ hdb r o q hφ
    obtain⟨le,iZ,rG⟩:=sr.uk (y':=.dead) (x':=.deferred none) hdb hφ k1 k2 rfl rfl (fun _ _ _=>trivial)
    refine⟨by simp,.inl ⟨r,_,rfl,run_takeDeferred k2,?_⟩⟩
    simp only[List.nodup_cons]at fB
    refine ih df bs' g (H.set b .dead) _ R a Rr QJ e2 fB.2 (fun c hc=>?_) iZ ⟨hr.1,fun t ht=>(hr.2 t ht).mono le⟩ (fun w' v I6 KR uu zF=>hk w' v (le.trans I6) KR uu (rG.trans zF)) qD cw
    exact ft (I7 c (by simp[hc])) (by rintro rfl;exact fB.1 hc)
   ·cases hb
def wy (tmps:Array Value):ResultVar→Sem Value
 | .tmp t=>pure (tmps.getD t undef)
 | .cell a t=>do loadVar t (←asAddr (tmps.getD a undef))
theorem kR {P:Program}{w0:World}{g:Ctx}{w:World}{H:af}{R:ar}{a:Act}{n:Nat}(sr:SR w0 g H w):∀(l:List ResultVar) (res:List Rs) (ts:List T),nr P l=some res→rN R H res=some ts→(∀t∈res,Bj n t=true)→gU g w n R a →
  ∃vs:List Value,(l.mapM (wy a.tmps)).run P w=.ok vs w∧bC g w ts vs
 | [],res,ts,h,ht,_,_=>by simp[nr]at h;subst h;simp[rN]at ht;subst ht;exact⟨[],by simp,bC.nil⟩
 | .tmp t :: l,res,ts,h,ht,hn,hr=>by
  simp only[nr,Option.map_eq_some_iff]at h
  obtain⟨MK,h1,rfl⟩:=h
  simp only[rN,xM]at ht
  split at ht
  ·rename_i v vs hv iq
   cases ht;cases hv
   obtain⟨us,h2,h3⟩:=kR (P:=P) sr l MK vs h1 iq (fun t ht=>hn t (by simp[ht])) hr
   exact⟨a.tmps.getD t undef :: us,by rw[List.mapM_cons];simp only[Sem.run_bind,wy,Sem.run_pure,Result.andThen_ok,h2],bC.cons (hr.2 t (by simpa[Bj]using hn (.t t) (by simp))) h3⟩
  ·cases ht
 | .cell c t :: l,res,ts,h,ht,hn,hr=>by
  simp only[nr]at h
  split at h
  ·rename_i d i hu hi
   simp only[Option.map_eq_some_iff]at h
   obtain⟨MK,h1,rfl⟩:=h
   simp only[rN]at ht
   split at ht
   ·rename_i v vs hv iq
    cases ht
    obtain⟨us,h2,h3⟩:=kR (P:=P) sr l MK vs h1 iq (fun t ht=>hn t (by simp[ht])) hr
    simp only[xM]at hv
    split at hv
    ·rename_i cs uc
     have hc:=hr.2 c (by simpa[Bj]using hn (.cl c (if dX d=true then i.size else 1) (dX d)) (by simp))
     obtain⟨u,w',g',cw,hw,fI,hg⟩:=HG (P:=P) hu hi rfl (fun e=>by rw[if_pos e]) sr hc uc hv
     subst hw;subst hg
     obtain⟨r,o,us0,hp,_⟩:=oc sr hc uc
     have QK:(wy a.tmps (.cell c t)).run P w'=.ok u w':=by
      rw[←cw,hp]
      have e:wy a.tmps (.cell c t)=(asAddr (a.tmps.getD c undef) >>= fun x=>loadVar t x):=rfl
      rw[e,hp]
      simp only[asAddr,Instr.loadAt,Instr.sureAddr,Sem.run_bind,Sem.run_pure,Result.andThen_ok]
     exact⟨u :: us,by rw[List.mapM_cons];simp only[Sem.run_bind,QK,Result.andThen_ok,h2,Sem.run_pure],bC.cons fI h3⟩
    ·cases hv
   ·cases ht
  ·cases h
theorem qE {P:Program}{fn:Func}{w0:World}{g:Ctx}{w:World}{H:af}{R:ar}{a:Act}{n:Nat}{res:List Rs}{t:T}(sr:SR w0 g H w)(h:nr P fn.results.toList=some res)(hn:∀t∈res,Bj n t=true)(hr:gU g w n R a)(ht:pn R H res=some t):∃v,(results fn a.tmps).run P w=.ok v w∧VR g w t v:=by
 simp only[pn,Option.map_eq_some_iff]at ht
 obtain⟨ts,ht,rfl⟩:=ht
 obtain⟨vs,h1,h2⟩:=kR (P:=P) sr fn.results.toList res ts h ht hn hr
 have hl:ts.length=vs.length:=h2.1
 have e:results fn a.tmps=(fn.results.mapM (wy a.tmps) >>= fun vs=>pure (if h:vs.size=1 then vs[0]else .tuple vs)):=rfl
 refine⟨if h:vs.toArray.size=1 then vs.toArray[0]else .tuple vs.toArray,?_,?_⟩
 ·rw[e,Array.mapM_eq_mapM_toList]
  simp only[Sem.run_bind,Sem.run_map,map_eq_pure_bind,h1,Result.andThen_ok,Sem.run_pure]
 ·match ts,vs,hl,h2 with
  | [],[],_,_=>exact .bF rfl (by simp)
  | [t],[v],_,h2=>simpa[AR]using h2.head
  | t :: t' :: ts,v :: v' :: vs,_,h2 =>
   have:¬(v :: v' :: vs).toArray.size=1:=by simp
   rw[dif_neg this]
   simpa[AR]using h2.bF
theorem fV {P:Program}{n:Nat}{ops:Array Oper}{mu:Bool}{o:Oper}{st:List Rd}{y:O}(h:fD P n ops mu o st=some y):y.d≠some n:=by
 obtain⟨_,_,_,_,e,_,h5⟩:=bq h
 subst e
 exact fun e=>Nat.lt_irrefl n (h5 n e)
theorem zH {P:Program}{n:Nat}{ops:Array Oper}{mu:Nat→Bool}{w0 w ws w':World}{df:List Deferred}{mk:T}{g g0 g':Ctx}{H H0 H':af}{pre Ws:List It}{L L':Array Bool}{R R':ar}{a a':Act}
  (h:Dr P n ops mu w0 df mk g0 ws H0 pre L g R H a w) (h':Dr P n ops mu w0 df mk g0 ws H0 Ws L' g' R' H' a' w') (ck:fU P g):fU P g':=fun n c k=>by rw[h'.le.ck,←h.le.ck];exact ck n c k
theorem qF {P:Program}{an:An}{f:FuncId}{fn:Fn}(xI:aj P an f=some fn):∃F code res body,P.funcs[f]?=some F∧F.body=some code∧nr P F.results.toList=some res∧bB P F.ntmps an true code=some body ∧
  dw P f=true∧F.params.size+F.nfree≤F.ntmps∧(∀t∈res,Bj F.ntmps t=true)∧fn=⟨F.ntmps,F.params.size+F.nfree,res,body⟩:=by
 unfold aj at xI
 cases hF:P.funcs[f]? with
 | none=>simp[hF]at xI
 | some F =>
  simp only[hF]at xI
  split at xI
  ·rename_i code res hb qD
   split at xI
   ·rename_i c uh
    split at xI
    ·rename_i hk
     simp only[Bool.and_eq_true,decide_eq_true_eq,List.all_eq_true]at hk
     obtain⟨⟨jH,a6⟩,au⟩:=hk
     cases xI
     exact⟨F,code,res,c,rfl,hb,qD,uh,jH,a6,au,rfl⟩
    ·cases xI
   ·cases xI
  ·cases xI
theorem qG {F:Func}{g:Ctx}{w:World}{as:List T}{args:List Value}(hv:bC g w as args){k:Nat}(hn:as.length=k)(a6:k≤F.ntmps) :
  gU g w F.ntmps (gr as) { tmps:=args.toArray++Array.replicate (F.ntmps-args.toArray.size) undef,defers:=[] }:=by
 have ML:args.length=as.length:=hv.1.symm
 refine⟨by simp[ML,hn];omega,fun t ht=>?_⟩
 by_cases U3:t<as.length
 ·simp only[gr]
  rw[List.getD_eq_getElem?_getD,List.getElem?_eq_getElem U3,Option.getD_some]
  rw[Array.getD_eq_getD_getElem?,Array.getElem?_append_left (by simpa[ML]using U3)]
  simp only[List.getElem?_toArray,List.getElem?_eq_getElem (ML▸U3:t<args.length),Option.getD_some]
  exact hv.2 t _ _ (List.getElem?_eq_getElem U3) (List.getElem?_eq_getElem _)
 ·simp only[gr]
  rw[List.getD_eq_getElem?_getD,List.getElem?_eq_none (by omega),Option.getD_none]
  rw[Array.getD_eq_getD_getElem?,Array.getElem?_append_right (by simp[ML];omega),Array.getElem?_replicate]
  split<;>exact gR
theorem kQ.QL {w0 w:World}{n:Nat}{hr n6:Bool}{df:List Deferred}{mk:T}{g:Ctx}{H:af}{Q:Out→af→Prop}(hh:hr=false→n6=false){e:Exit}{a:Act}{u:World}(h:kQ w0 n n6 df mk g w H Q e a u):kQ w0 n hr df mk g w H Q e a u :=
 h.trans (.refl _ _) (.refl _ _) id fun e=>⟨hh e,rfl,rfl⟩
theorem W.sim {P:Program}{E:Env}(hE:zC P E){j:J}{H:af}{Q:Out→af→Prop}(h:W E j H Q):Wl P j H Q:=by
 induction h with
 | @skip R H Q h =>
  intro w0 g w a n an top code r hc ht ck sr hr
  obtain rfl:=Dv hc
  exact⟨wpIn_skip ⟨.normal,R,g,H,rfl,h,.refl _ _,sr,hr,.refl _ _,id,fun _=>⟨rfl,rfl⟩⟩,by rintro _⟨⟩⟩
 | @exit id R H Q h =>
  intro w0 g w a n an top code r hc ht ck sr hr
  obtain rfl:=Dw hc
  exact⟨wpIn_exit ⟨.exit id,R,g,H,rfl,h,.refl _ _,sr,hr,.refl _ _,fun m=>m,fun _=>⟨rfl,rfl⟩⟩,by rintro _⟨⟩⟩
 | @ret R H Q h =>
  intro w0 g w a n an top code r hc ht ck sr hr
  obtain rfl:=IZ hc
  exact⟨wpIn_ret ⟨.ret,R,g,H,rfl,h,.refl _ _,sr,hr,.refl _ _,id,fun _=>⟨rfl,rfl⟩⟩,by rintro _⟨⟩⟩
 | @Pr l R H Q _ ih =>
  intro w0 g w a n an top code r hc ht ck sr hr
  obtain⟨id,ops,mu,⟨rfl,h1⟩|⟨rfl,ord,jF,h1,h2⟩⟩:=I1 hc
  ·exact⟨wpIn_mono (wpIn_region (ih.1 w0 g w H g w a n ops mu _ r h1 ck sr hr (.refl _ _) (.refl _ _))) fun e a w hp=>hp.toC,by rintro _⟨⟩⟩
  ·refine⟨wpIn_mono (wpIn_region_any (Q:=yk w0 n a.defers (R n) g w H Q) hE.mixed ?_) fun e a w hp=>hp.toC,by rintro _⟨⟩⟩
   obtain⟨iZ,le⟩:=sr.drew (w':={ w with drawn:=w.drawn+1 }) (Tr.drew w) rfl
   have hd:=Dr.init (ops:=ops) (mu:=mu) (P:=P) (mk:=R n) iZ hr.1 rfl (fun t ht=>(hr.2 t ht).mono le) le (.refl g H)
   refine ih.2 w0 n ops mu a.defers (R n) g w H [] _ g a _ ord jF r ops.size ck h1 h2 hd ?_
   exact Nat.le_trans (List.count_le_length) (by simp)
 | @seq x y R H Q M _ h2 h3 vt mX =>
  intro w0 g w a n an top code r hc ht ck sr hr
  obtain⟨c,d,rfl,k1,k2⟩:=I0 hc
  refine⟨wpIn_seq (wpIn_mono (vt w0 g w a n an top c r k1 ht ck sr hr).1 fun e a' w' hp=>?_),by rintro _⟨⟩⟩
  have hb:(C.seq x y).lT=false→x.lT=false∧y.lT=false:=by simp[C.lT]
  obtain⟨ex,R',g',H',e1,hm,le,iZ,n6,fr,vo,zI⟩:=hp
  cases e<;>simp only[rY,Option.some.injEq,reduceCtorEq]at e1<;>subst e1
  case normal =>
   exact wpIn_mono (mX R' H' hm w0 g' w' a' n an top d r k2 ht (ck.mono le) iZ n6).1 fun e a2 w2 hp=>hp.trans le fr vo fun e=>⟨(hb e).2,zI (hb e).1⟩
  case exit id=>exact⟨_,R',g',H',rfl,h3 _ _ hm (by simp),le,iZ,n6,fr,vo,fun e=>zI (hb e).1⟩
  case ret=>exact⟨_,R',g',H',rfl,h3 _ _ hm (by simp),le,iZ,n6,fr,vo,fun e=>zI (hb e).1⟩
 | @cond x c d R H Q t hx _ ih =>
  intro w0 g w a n an top code r hc ht ck sr hr
  obtain⟨o,d',e',rfl,k1,k2,k3,k4⟩:=Dx hc
  refine⟨wpIn_cond (t:=t) ?_ ?_,by rintro _⟨⟩⟩
  ·have hv:VR g w (.bool t) (a.eval o):=by
    cases o with
    | tmp u=>simp only[aK,Option.some.injEq]at k1;subst k1;simp only[X.ev]at hx;rw[←hx];exact hr.2 u (k4 u rfl)
    | const v =>
     simp only[aK,Option.map_eq_some_iff]at k1
     obtain⟨u,h1,rfl⟩:=k1
     simp only[X.ev]at hx;subst hx
     exact lr h1
    | «global» _=>simp[aK]at k1
    | func f=>simp only[aK,Option.some.injEq]at k1;subst k1;simp[X.ev]at hx
   generalize a.eval o=v at hv
   cases hv;rfl
  ·cases t
   ·exact wpIn_mono (ih w0 g w a n an top e' r k3 ht ck sr hr).1 fun e a w hp=>hp.QL (by simp[C.lT])
   ·exact wpIn_mono (ih w0 g w a n an top d' r k2 ht ck sr hr).1 fun e a w hp=>hp.QL (by simp[C.lT];intro h _;exact h)
 | @block id x R H Q M _ h2 h3 ih =>
  intro w0 g w a n an top code r hc ht ck sr hr
  obtain⟨c,rfl,k1⟩:=Bw hc
  refine⟨wpIn_block (wpIn_mono (ih w0 g w a n an top c r k1 ht ck sr hr).1 fun e a' w' hp=>?_),by rintro _⟨⟩⟩
  obtain⟨ex,R',g',H',e1,hm,le,iZ,n6,fr,zI⟩:=hp
  cases e<;>simp only[rY,Option.some.injEq,reduceCtorEq]at e1<;>subst e1
  case normal=>exact⟨_,R',g',H',rfl,h3 _ _ hm (by simp),le,iZ,n6,fr,zI⟩
  case exit id' =>
   simp only[Exit.inBlock]
   split
   ·rename_i e;subst e;exact⟨_,R',g',H',rfl,h2 _ _ hm,le,iZ,n6,fr,zI⟩
   ·rename_i e;exact⟨_,R',g',H',rfl,h3 _ _ hm (fun R2 e2=>by cases e2;exact e rfl),le,iZ,n6,fr,zI⟩
  case ret=>exact⟨_,R',g',H',rfl,h3 _ _ hm (by simp),le,iZ,n6,fr,zI⟩
 | @loop x R H Q M _ h2 h3 vt mX =>
  intro w0 g w a n an top code r hc ht ck sr hr
  obtain⟨c,rfl,k1⟩:=Dy hc
  have key:qA (Fw r) 0 P c (kQ w0 n x.loop.lT a.defers (R n) g w H Q) a w:=by
   refine v9 (wpIn_mono (vt w0 g w a n an top c r k1 ht ck sr hr).1 fun e a' w' hp=>?_)
   obtain⟨ex,R',g',H',e1,hm,le,iZ,n6,fr,vo,zI⟩:=hp
   cases e<;>simp only[rY,Option.some.injEq,reduceCtorEq]at e1<;>subst e1
   case normal =>
    have:=(mX R' H' hm w0 g' w' a' n an top (.loop c) r hc ht (ck.mono le) iZ n6).2 c rfl
    intro b k cs h1 h2 h4
    obtain⟨e,a2,w2,hq,nn⟩:=this b k cs h1 h2 h4
    exact⟨e,a2,w2,hq.trans le fr vo fun e=>⟨e,zI e⟩,nn⟩
   case exit id=>exact⟨_,R',g',H',rfl,h3 _ _ hm (by simp),le,iZ,n6,fr,vo,zI⟩
   case ret=>exact⟨_,R',g',H',rfl,h3 _ _ hm (by simp),le,iZ,n6,fr,vo,zI⟩
  exact⟨Bu key,fun body e=>by cases e;exact key⟩
 | @cJ m x ps bZ body R H Q f cs M hx _ h2 ih =>
  intro w0 g w a n an top code r hc ht ck sr hr
  obtain⟨Wt,qs,c,d,rfl,k1,k2,k3,k4,k5,rfl,k7,rfl⟩:=Bx hc
  obtain rfl:=ht k4
  refine⟨wpIn_rangeFunc fun fn _=>?_,by rintro _⟨⟩⟩
  have hv:VR g w (.fn f cs) (a.eval Wt):=by
   cases Wt with
   | tmp u=>simp only[aK,Option.some.injEq]at k1;subst k1;simp only[X.ev]at hx;rw[←hx];exact hr.2 u (k5 u (by simp[dK]))
   | const v =>
    simp only[aK,Option.map_eq_some_iff]at k1
    obtain⟨u,h1,rfl⟩:=k1
    simp only[X.ev]at hx;subst hx
    exact lr h1
   | «global» _=>simp[aK]at k1
   | func f'=>simp only[aK,Option.some.injEq]at k1;subst k1;simp only[X.ev]at hx;cases hx;exact .fn rfl (by simp)
  generalize hgv:a.eval Wt=vf at hv
  cases hv with
  | @fn _ _ vs hl uc =>
   obtain⟨g1,eY,Mu,Wp,PH⟩:=sr.Di (x:=.deferred (some [])) (y:=.zf) rfl (fun g' w' _ q1 q2 q3 r o q hq=>by rw[q2]at hq;cases hq;exact⟨q1,q3⟩)
   have a6:(w.alloc (.deferred (some []))).heap.size=w.heap.size+1:=by simp
   obtain⟨g2,I6,KR,zF,zr⟩:=Mu.Di (x:=.loop { state:=.ready,pending:=none,fn,tmps:=a.tmps,params:=qs,assign:=c,body:=d,defers:=w.heap.size }) (y:=.loop .ready none m R qs.toList bZ body) rfl
    (fun g' w' le q1 q2 q3 r o q hq=>by
     rw[q2]at hq;cases hq
     refine⟨q1,_,q3,rfl,rfl,rfl,hr.1,fun t ht=>((hr.2 t ht).mono eY).mono le,k7,?_,?_⟩
     ·rw[le.ck,eY.ck];exact(ck _ _ _).2 ⟨an,k2⟩
     ·rw[le.ck,eY.ck];exact(ck _ _ _).2 ⟨an,k3⟩)
   rw[a6]at zr
   have hlen:(H++[B.zf]).length=H.length+1:=by simp
   rw[hlen]at zr
   have qH:H++[B.zf]++[B.loop .ready none m R qs.toList bZ body]=H++[.zf,.loop .ready none m R qs.toList bZ body]:=by simp
   rw[qH]at KR zF
   have MM:=eY.trans I6
   have QM:bC g2 ((w.alloc (.deferred (some []))).alloc (.loop { state:=.ready,pending:=none,fn,tmps:=a.tmps,params:=qs,assign:=c,body:=d,defers:=w.heap.size })) (.mR (H.length+1) :: cs) (.func (.yield (w.heap.size+1)) #[] #[] :: vs.toList) :=
    bC.cons (.mR zr) ⟨by simp[hl],fun i t v ha hb=>(uc i t v ha (by simpa using hb)).mono MM⟩
   obtain⟨jH,DA⟩:=ih w0 g2 _ _ (ck.mono MM) KR QM
   refine⟨w.heap.size+1,[{ target:=.collected w.heap.size,args:=#[] }],((w.alloc (.deferred (some []))).alloc (.loop { state:=.ready,pending:=none,fn,tmps:=a.tmps,params:=qs,assign:=c,body:=d,defers:=w.heap.size })),{ target:=.fn (.func f) vs,args:=#[.func (.yield (w.heap.size+1)) #[] #[]] },((w.alloc (.deferred (some []))).alloc (.loop { state:=.ready,pending:=none,fn,tmps:=a.tmps,params:=qs,assign:=c,body:=d,defers:=w.heap.size })),f,#[.func (.yield (w.heap.size+1)) #[] #[]]++vs,((w.alloc (.deferred (some []))).alloc (.loop { state:=.ready,pending:=none,fn,tmps:=a.tmps,params:=qs,assign:=c,body:=d,defers:=w.heap.size })),run_enterLoop_outer _ _ _ _ _,?_,fun _ _=>trivial,?_,fun h=>by simp[Fw]at h,?_⟩
   ·simp only[resolve,hgv,Deferred.ofValue]
    simp[Act.eval]
   ·exact jG jH
   ·have e3:(.func (.yield (w.heap.size+1)) #[] #[] :: vs.toList:List Value).toArray=#[.func (.yield (w.heap.size+1)) #[] #[]]++vs:=by simp
    rw[e3]at DA
    refine DA.mono fun e w3 ⟨v,t,g3,H3,he,hM,zG,Bz,_,Cs⟩=>?_
    subst he
    obtain⟨st,fz,dG,U4,Cu,hQ⟩:=h2 _ _ hM
    have hφ3:=zG.φ _ _ zr
    obtain⟨j1,rec,j2,j3,j4,j5,j6,j7,j8,j9,j10⟩:=Bz.dQ _ _ Cu _ _ _ hφ3
    obtain⟨Hg,Hi,Ct⟩:=Bz.uk (y':=.dead) (x':=.loop { rec with state:=.exhausted }) Cu hφ3 j1 j2 rfl rfl (fun _ _ _=>trivial)
    refine⟨_,_,run_endLoop j2 (by rw[j3];cases st<;>simp[L4.real]at dG ⊢),?_⟩
    generalize w3.putObj (w.heap.size+1) (.loop { rec with state:=.exhausted })=W4 at Hg Hi ⊢
    rw[j4]
    have MN:=(MM.trans zG).trans Hg
    have hFr:Fr g H g3 (H3.set (H.length+1) .dead):=by
     have:=(Wp.trans zF).trans (Cs.trans Ct)
     exact this
    have post:∀e,rY e=some (CL fz)→kQ w0 m (C.cJ m x qs.toList bZ body).lT a.defers (R m) g w H Q e { a with defers:=[{ target:=.collected w.heap.size,args:=#[] }]++a.defers } W4:=by
     intro e he
     refine⟨_,_,g3,_,he,hQ,MN,Hi,⟨hr.1,fun t ht=>?_⟩,hFr,fun hm=>?_,fun h=>by simp[C.lT]at h⟩
     ·simp only[nX];rw[if_neg (Nat.ne_of_lt ht)];exact(hr.2 t ht).mono MN
     ·obtain⟨ts,e1,e2⟩:=hm
      refine⟨.ptr H.length 0 :: ts,by simp[nX,e1,m4],.cons (((I6.trans zG).trans Hg).φ _ _ PH) (e2.mono MN)⟩
    cases hp:fz with
    | none=>simp only[vD];exact post .normal (by rw[hp];rfl)
    | some e =>
     rcases Dz (e:=e) (by rintro rfl;exact U4 hp)with⟨id,rfl,e5⟩|⟨rfl,e5⟩
     ·simp only[e5];exact wpIn_exit (post (.exit id) (by rw[hp];rfl))
     ·simp only[e5];exact wpIn_ret (post .ret (by rw[hp];rfl))
 | @nil R H Q h =>
  refine⟨fun w0 g0 ws H0 g w a n ops mu is r hc ck sr hr le fr=>?_,fun w0 n ops mu df mk g0 ws H0 pre L g a w ord jF r fuel ck h1 h2 hd hl=>?_⟩
  ·obtain rfl:=wh hc
   exact⟨.normal,R,g,H,rfl,h,le,sr,hr,fr,rfl,rfl⟩
  ·have cr:=cU ord pre jF h1
   cases jF with
   | cons _ _=>simp at h2
   | nil=>exact Bv (by simpa using cr) h fuel L g a w hl hd
 | @no o l R H Q hg _ ih =>
  refine⟨fun w0 g0 ws H0 g w a n ops mu is r hc ck sr hr le fr=>?_,fun w0 n ops mu df mk g0 ws H0 pre L g a w ord jF r fuel ck h1 h2 hd hl=>?_⟩
  ·obtain⟨i,sX,oper,rfl,ho,fA,fC⟩:=dt hc
   rw[wpOpsIn_cons]
   refine zD ho fA hr.1 (hr.rg (o8 fA)) hg ?_
   have:=ih.1 w0 g0 ws H0 g w (a.put o.d undef) n ops mu sX r fC ck sr (hr.put (by obtain⟨_,_,_,_,e,_,h5⟩:=bq fA;rw[e];exact h5) (.refl _ _) gR) le fr
   rwa[iS,cC (fV fA)]at this
  ·obtain⟨x,l',fM,oper,rfl,rfl,h3,hh,h4⟩:=gV h1 h2
   cases he:x.early with
   | true=>exact ih.2 w0 n ops mu df mk g0 ws H0 _ L g a w fM l' r fuel ck h4 h3 (hd.I2 hh he hg) hl
   | false =>
    refine e9 (Tl:=fun R' H'=>R'=bu R x.o.d bX∧H'=H) hh he (cU ord pre _ h1) (dp fM _ l' h4) ?_ ?_ fuel L g a w hl hd
    ·rintro R' H'⟨rfl,rfl⟩ fuel L' g' a' w' hL gB
     exact ih.2 w0 n ops mu df mk g0 ws H0 _ L' g' a' w' fM l' r fuel (zH hd gB ck) h4 h3 gB hL
    ·intro L g a w hd hp K hK
     exact zD hh.ho hh.co hd.vq (hd.fb hh hp) hg (hK _ _ g _ w ⟨rfl,rfl⟩ (hd.both hh he hp (.refl _ _) hd.sr gR (.refl _ _) fun _ _ _ _ _ _ _ _ _ e=>e))
 | @op d b gd s l R H Q v H' hg hv hs _ ih =>
  refine⟨fun w0 g0 ws H0 g w a n ops mu is r hc ck sr hr le fr=>?_,fun w0 n ops mu df mk g0 ws H0 pre L g a w ord jF r fuel ck h1 h2 hd hl=>?_⟩
  ·obtain⟨i,sX,oper,rfl,ho,fA,fC⟩:=dt hc
   rw[wpOpsIn_cons]
   obtain⟨u,w',g',bS,mE,iZ,fI,rG⟩:=zE (r:=r) ho fA hr.1 (hr.rg (o8 fA)) hg sr hv
   refine bS _ _ ?_
   have:=ih.1 w0 g0 ws H0 g' w' (a.put d u) n ops mu sX r fC (ck.mono mE) iZ (hr.put (by obtain⟨_,_,_,_,e,_,h5⟩:=bq fA;cases e;exact h5) mE fI) (le.trans mE) (fr.trans rG)
   rwa[iS,cC (fV fA)]at this
  ·obtain⟨x,l',fM,oper,rfl,nv,h3,hh,h4⟩:=gV h1 h2
   have Cv:x.o.d=d:=by rw[nv]
   cases he:x.early with
   | true =>
    have:=hd.I3 hh he (b:=b) (by rw[nv]) (by rw[nv];exact hg) hv
    rw[Cv]at this
    exact ih.2 w0 n ops mu df mk g0 ws H0 _ L g a w fM l' r fuel ck h4 h3 this hl
   | false =>
    refine e9 (Tl:=fun R' H2=>R'=bu R d v∧H2=H') hh he (cU ord pre _ h1) (dp fM _ l' h4) ?_ ?_ fuel L g a w hl hd
    ·rintro R' H'⟨rfl,rfl⟩ fuel L' g' a' w' hL gB
     exact ih.2 w0 n ops mu df mk g0 ws H0 _ L' g' a' w' fM l' r fuel (zH hd gB ck) h4 h3 gB hL
    ·intro L2 g2 a2 w2 cu hp K hK
     have KS:fU P g2:=zH hd cu ck
     have fA:=hh.co
     have pb:=cu.fb hh hp
     have dG:=cu.stays hh he hp (H':=H') (by rw[nv];exact hs)
     rw[nv]at fA pb
     obtain⟨u,w',g',bS,mE,iZ,fI,rG⟩:=zE (r:=r) hh.ho fA cu.vq pb hg cu.sr hv
     refine bS _ _ (hK _ _ g' _ w' ⟨rfl,rfl⟩ ?_)
     have:=cu.both hh he hp mE iZ fI rG dG
     rwa[Cv]at this
 | @call d f as gd s l R H Q M hg _ hs h2 vt mX =>
  refine⟨fun w0 g0 ws H0 g w a n ops mu is r hc ck sr hr le fr=>?_,fun w0 n ops mu df mk g0 ws H0 pre L g a w ord jF r fuel ck h1 h2 hd hl=>?_⟩
  ·obtain⟨i,sX,oper,rfl,ho,fA,fC⟩:=dt hc
   rw[wpOpsIn_cons]
   refine sU (r:=r) ho fA hr.1 (hr.rg (o8 fA)) hg (fun args hv=>vt w0 g w args ck sr hv) fun u w' g' H' t hM mE iZ fI rG=>?_
   have:=(mX t H' hM).1 w0 g0 ws H0 g' w' (a.put d u) n ops mu sX r fC (ck.mono mE) iZ (hr.put (by obtain⟨_,_,_,_,e,_,h5⟩:=bq fA;cases e;exact h5) mE fI) (le.trans mE) (fr.trans rG)
   rwa[iS,cC (fV fA)]at this
  ·obtain⟨x,l',fM,oper,rfl,nv,h3,hh,h4⟩:=gV h1 h2
   have Cv:x.o.d=d:=by rw[nv]
   cases he:x.early with
   | true=>exact absurd (by rw[nv];rfl) (hh.kl he).1
   | false =>
    refine e9 (Tl:=fun R' H2=>∃v,M (.val v) H2∧R'=bu R d v) hh he (cU ord pre _ h1) (dp fM _ l' h4) ?_ ?_ fuel L g a w hl hd
    ·rintro R' H'⟨v,hM,rfl⟩ fuel L' g' a' w' hL gB
     exact(mX v H' hM).2 w0 n ops mu df mk g0 ws H0 _ L' g' a' w' fM l' r fuel (zH hd gB ck) h4 h3 gB hL
    ·intro L2 g2 a2 w2 cu hp K hK
     have KS:fU P g2:=zH hd cu ck
     have fA:=hh.co
     have pb:=cu.fb hh hp
     rw[nv]at fA pb
     refine sU (r:=r) hh.ho fA cu.vq pb hg (fun args hv=>vt w0 g2 w2 args KS cu.sr hv) fun u w' g' H' t hM mE iZ fI rG=>hK _ H' g' _ w' ⟨t,hM,rfl⟩ ?_
     have dG:=cu.stays hh he hp (H':=H') (by rw[nv];exact hs t H' hM)
     have:=cu.both hh he hp mE iZ fI rG dG
     rwa[Cv]at this
 | @bA d xx f cs as gd s l R H Q M hg hf _ hs h2 vt mX =>
  refine⟨fun w0 g0 ws H0 g w a n ops mu is r hc ck sr hr le fr=>?_,fun w0 n ops mu df mk g0 ws H0 pre L g a w ord jF r fuel ck h1 h2 hd hl=>?_⟩
  ·obtain⟨i,sX,oper,rfl,ho,fA,fC⟩:=dt hc
   rw[wpOpsIn_cons]
   refine qB (r:=r) ho fA hr.1 (hr.rg (o8 fA)) hg hf (fun args hv=>vt w0 g w args ck sr hv) fun u w' g' H' t hM mE iZ fI rG=>?_
   have:=(mX t H' hM).1 w0 g0 ws H0 g' w' (a.put d u) n ops mu sX r fC (ck.mono mE) iZ (hr.put (by obtain⟨_,_,_,_,e,_,h5⟩:=bq fA;cases e;exact h5) mE fI) (le.trans mE) (fr.trans rG)
   rwa[iS,cC (fV fA)]at this
  ·obtain⟨x,l',fM,oper,rfl,nv,h3,hh,h4⟩:=gV h1 h2
   have Cv:x.o.d=d:=by rw[nv]
   cases he:x.early with
   | true=>exact absurd (by rw[nv];rfl) (hh.kl he).1
   | false =>
    refine e9 (Tl:=fun R' H2=>∃v,M (.val v) H2∧R'=bu R d v) hh he (cU ord pre _ h1) (dp fM _ l' h4) ?_ ?_ fuel L g a w hl hd
    ·rintro R' H'⟨v,hM,rfl⟩ fuel L' g' a' w' hL gB
     exact(mX v H' hM).2 w0 n ops mu df mk g0 ws H0 _ L' g' a' w' fM l' r fuel (zH hd gB ck) h4 h3 gB hL
    ·intro L2 g2 a2 w2 cu hp K hK
     have KS:fU P g2:=zH hd cu ck
     have fA:=hh.co
     have pb:=cu.fb hh hp
     rw[nv]at fA pb
     refine qB (r:=r) hh.ho fA cu.vq pb hg hf (fun args hv=>vt w0 g2 w2 args KS cu.sr hv) fun u w' g' H' t hM mE iZ fI rG=>hK _ H' g' _ w' ⟨t,hM,rfl⟩ ?_
     have dG:=cu.stays hh he hp (H':=H') (by rw[nv];exact hs t H' hM)
     have:=cu.both hh he hp mE iZ fI rG dG
     rwa[Cv]at this
 | @mR d xx b as gd s l R H Q m R0 ps bZ body M1 M hg hf hb hn _ AU _ AV zi _ Ck _ vt mX PI PJ =>
  refine⟨fun w0 g0 ws H0 g w a n ops mu is r hc ck sr hr le fr=>?_,fun w0 n ops mu df mk g0 ws H0 pre L g a w ord jF r fuel ck h1 h2 hd hl=>?_⟩
  ·obtain⟨i,sX,oper,rfl,ho,fA,fC⟩:=dt hc
   rw[wpOpsIn_cons]
   refine wq (r:=r) ho fA hr.1 (hr.rg (o8 fA)) hg hf hb hn ck sr vt AU mX AV fun u w' g' H' t xV mE iZ fI rG=>?_
   have QN:=hr.put (d:=d) (by obtain⟨_,_,_,_,e,_,h5⟩:=bq fA;cases e;exact h5) mE fI
   rcases xV with⟨R',H2,hM,rfl,rfl⟩|⟨e,R',H2,hM,bG,rfl,rfl⟩
   ·have:=(PI R' H2 hM).1 w0 g0 ws H0 g' w' (a.put d u) n ops mu sX r fC (ck.mono mE) iZ QN (le.trans mE) (fr.trans rG)
    rwa[iS,cC (fV fA)]at this
   ·have:=(PJ e R' H2 hM bG).1 w0 g0 ws H0 g' w' (a.put d u) n ops mu sX r fC (ck.mono mE) iZ QN (le.trans mE) (fr.trans rG)
    rwa[iS,cC (fV fA)]at this
  ·obtain⟨x,l',fM,oper,rfl,nv,h3,hh,h4⟩:=gV h1 h2
   have Cv:x.o.d=d:=by rw[nv]
   cases he:x.early with
   | true=>exact absurd (by rw[nv];rfl) (hh.kl he).1
   | false =>
    refine e9 (Tl:=fun R' H'=>(∃R2 H2,M (.ex .normal R2) H2∧R'=bu R d (.bool true)∧H'=H2.set b (.loop .ready none m R0 ps bZ body))∨(∃e R2 H2,M (.ex e R2) H2∧e≠.normal∧R'=bu R d (.bool false)∧H'=H2.set b (.loop .done (some e) m R0 ps bZ body)))
     hh he (cU ord pre _ h1) (dp fM _ l' h4) ?_ ?_ fuel L g a w hl hd
    ·rintro R' H' (⟨R2,H2,hM,rfl,rfl⟩|⟨e,R2,H2,hM,bG,rfl,rfl⟩) fuel L' g' a' w' hL gB
     ·exact(PI R2 H2 hM).2 w0 n ops mu df mk g0 ws H0 _ L' g' a' w' fM l' r fuel (zH hd gB ck) h4 h3 gB hL
     ·exact(PJ e R2 H2 hM bG).2 w0 n ops mu df mk g0 ws H0 _ L' g' a' w' fM l' r fuel (zH hd gB ck) h4 h3 gB hL
    ·intro L2 g2 a2 w2 cu hp K hK
     have KS:fU P g2:=zH hd cu ck
     have fA:=hh.co
     have pb:=cu.fb hh hp
     rw[nv]at fA pb
     refine wq (r:=r) hh.ho fA cu.vq pb hg hf hb hn KS cu.sr vt AU mX AV fun u w' g' H' t xV mE iZ fI rG=>?_
     have kb:∀(hs:jy R H' s),Dr P n ops mu w0 df mk g0 ws H0 (pre++[x]) (L2.setIfInBounds x.i true) g' (bu R d t) H' (a2.put d u) w':=fun hs=>by
      have dG:=cu.stays hh he hp (H':=H') (by rw[nv];exact hs)
      have:=cu.both hh he hp mE iZ fI rG dG
      rwa[Cv]at this
     rcases xV with⟨R',H2,hM,rfl,rfl⟩|⟨e,R',H2,hM,bG,rfl,rfl⟩
     ·exact hK _ _ g' _ w' (.inl ⟨R',H2,hM,rfl,rfl⟩) (kb (zi R' H2 hM))
     ·exact hK _ _ g' _ w' (.inr ⟨e,R',H2,hM,bG,rfl,rfl⟩) (kb (Ck e R' H2 hM bG))
 | @AS d neg c xx yy s l R H Q hs _ hx hy hc ih =>
  subst hc
  subst hs
  refine⟨fun w0 g0 ws H0 g w a n ops mu is r hc ck sr hr le fr=>?_,fun w0 n ops mu df mk g0 ws H0 pre L g a w ord jF r fuel ck h1 h2 hd hl=>?_⟩
  ·obtain⟨i,sX,oper,rfl,ho,fA,fC⟩:=dt hc
   rw[wpOpsIn_cons]
   obtain⟨b,bS⟩:=sS (r:=r) ho fA hr.1 (hr.rg (o8 fA)) rfl hx hy
   refine bS _ _ ?_
   have:=(ih b).1 w0 g0 ws H0 g w (a.put d (.bool b)) n ops mu sX r fC ck sr (hr.put (by obtain⟨_,_,_,_,e,_,h5⟩:=bq fA;cases e;exact h5) (.refl _ _) (.bool b)) le fr
   rwa[iS,cC (fV fA)]at this
  ·obtain⟨x,l',fM,oper,rfl,nv,h3,hh,h4⟩:=gV h1 h2
   have Cv:x.o.d=d:=by rw[nv]
   cases he:x.early with
   | true =>
    have:=(hh.kl he).1
    rw[nv]at this
    exact absurd (by cases d<;>rfl) this
   | false =>
    refine e9 (Tl:=fun R' H2=>∃b:Bool,R'=bu R d (.bool b)∧H2=H) hh he (cU ord pre _ h1) (dp fM _ l' h4) ?_ ?_ fuel L g a w hl hd
    ·rintro R' H'⟨b,rfl,rfl⟩ fuel L' g' a' w' hL gB
     exact(ih b).2 w0 n ops mu df mk g0 ws H0 _ L' g' a' w' fM l' r fuel (zH hd gB ck) h4 h3 gB hL
    ·intro L2 g2 a2 w2 cu hp K hK
     have KS:fU P g2:=zH hd cu ck
     have fA:=hh.co
     have pb:=cu.fb hh hp
     rw[nv]at fA pb
     obtain⟨b,bS⟩:=sS (r:=r) hh.ho fA cu.vq pb rfl hx hy
     refine bS _ _ (hK _ H g2 _ w2 ⟨b,rfl,rfl⟩ ?_)
     have:=cu.both hh he hp (.refl _ _) cu.sr (.bool b) (.refl _ _) fun _ _ _ _ _ _ _ _ _ e=>e
     rwa[Cv]at this
 | @pD d xx gd s l R H Q b bi es ix cur hg hx hb hs _ ih =>
  refine⟨fun w0 g0 ws H0 g w a n ops mu is r hc ck sr hr le fr=>?_,fun w0 n ops mu df mk g0 ws H0 pre L g a w ord jF r fuel ck h1 h2 hd hl=>?_⟩
  ·obtain⟨i,sX,oper,rfl,ho,fA,fC⟩:=dt hc
   rw[wpOpsIn_cons]
   obtain⟨t,H',u,w',g',hM,bS,mE,iZ,fI,rG⟩:=we (r:=r) ho fA hr.1 (hr.rg (o8 fA)) hg sr hx hb
   refine bS _ _ ?_
   have:=(ih t H' hM).1 w0 g0 ws H0 g' w' (a.put d u) n ops mu sX r fC (ck.mono mE) iZ (hr.put (by obtain⟨_,_,_,_,e,_,h5⟩:=bq fA;cases e;exact h5) mE fI) (le.trans mE) (fr.trans rG)
   rwa[iS,cC (fV fA)]at this
  ·obtain⟨x,l',fM,oper,rfl,nv,h3,hh,h4⟩:=gV h1 h2
   have Cv:x.o.d=d:=by rw[nv]
   cases he:x.early with
   | true =>
    have:=(hh.kl he).1
    rw[nv]at this
    exact absurd (by cases d<;>rfl) this
   | false =>
    refine e9 (Tl:=fun R' H2=>∃v,m5 H b bi es ix v H2∧R'=bu R d v) hh he (cU ord pre _ h1) (dp fM _ l' h4) ?_ ?_ fuel L g a w hl hd
    ·rintro R' H'⟨v,hM,rfl⟩ fuel L' g' a' w' hL gB
     exact(ih v H' hM).2 w0 n ops mu df mk g0 ws H0 _ L' g' a' w' fM l' r fuel (zH hd gB ck) h4 h3 gB hL
    ·intro L2 g2 a2 w2 cu hp K hK
     have KS:fU P g2:=zH hd cu ck
     have fA:=hh.co
     have pb:=cu.fb hh hp
     rw[nv]at fA pb
     obtain⟨t,H',u,w',g',hM,bS,mE,iZ,fI,rG⟩:=we (r:=r) hh.ho fA cu.vq pb hg cu.sr hx hb
     refine bS _ _ (hK _ H' g' _ w' ⟨t,hM,rfl⟩ ?_)
     have dG:=cu.stays hh he hp (H':=H') (by rw[nv];exact hs t H' hM)
     have:=cu.both hh he hp mE iZ fI rG dG
     rwa[Cv]at this
 | @shr f as H Q M _ h2 ih =>
  intro w0 g w args ck sr hv
  obtain⟨jH,hc⟩:=ih w0 g w args ck sr hv
  refine⟨jH,hc.mono fun e w3 ⟨v,t,g3,H3,he,hM,zG,Bz,fI,Cs⟩=>?_⟩
  obtain⟨t',b,cs,k,ht,iE,hb,hq⟩:=h2 _ _ hM
  cases ht
  have hφ:∃x,g3.φ b=some x:=by
   cases fI with
   | ax h=>simp only[zh]at iE;subst iE;exact⟨_,h⟩
   | bF hl h2 =>
    obtain⟨off,len,n,hm⟩:=iE
    obtain⟨i,hi⟩:=List.mem_iff_getElem?.1 hm
    have au:=(List.getElem?_eq_some_iff.1 hi).1
    obtain⟨u,hu⟩:∃u,(Array.mk _)[i]?=some u:=⟨_,Array.getElem?_eq_getElem (Nat.lt_of_lt_of_eq au hl.symm)⟩
    have:=h2 i _ _ hi hu
    cases this with
    | ax h=>exact⟨_,h⟩
   | _=>exact iE.elim
  obtain⟨Hi,Ct⟩:=Bz.shrink k hb hφ
  exact⟨v,_,g3,_,he,hq,zG,Hi,fI,Cs.trans Ct⟩
 | @Ps f as H Q fn M hf hn _ h2 ih =>
  intro w0 g w args ck sr hv
  obtain⟨an,xI⟩:=hE.fn f fn hf
  obtain⟨F,code,res,body,hF,hb,qD,uh,jH,a6,au,rfl⟩:=qF xI
  refine⟨jH,callsIn_of_wp_marks hF hb trivial ?_⟩
  have MO:=qG (F:=F) hv hn a6
  refine wpIn_mono (ih w0 g w _ F.ntmps an true code none uh (fun _=>rfl) ck sr MO).1 fun e a' w' DB=>?_
  obtain⟨ex,R',g',H',e1,hm,le,iZ,n6,fr,vo,_⟩:=DB
  obtain⟨R2,bs,hex,QJ,fB,I7,v0,MP,hq⟩:=h2 _ _ hm
  have Wu:Mk g (gr as F.ntmps) []:=⟨[],by simp only[gr];rw[List.getD_eq_getElem?_getD,List.getElem?_eq_none (by simp only at hn;omega)];rfl,.nil⟩
  obtain⟨ts,Cq,hmo⟩:=vo Wu
  have uv:R2=R'→LeavesInM (Fw none) 0 P F a'.tmps (sR w0 g w H fun v H'=>Q (.val v) H') a'.defers .returning w':=by
   rintro rfl
   simp only at QJ hq MP
   rw[Cq]at QJ
   refine ur ts a'.defers bs g' H' w' R2 a' _ hmo QJ fB I7 iZ n6 (fun w2 v I6 KR _ zF _ fI=>⟨v,_,g',_,rfl,hq,le.trans I6,KR,fI,fr.trans zF⟩) MP fun g w H sr hr ht=>qE (P:=P) sr qD au hr ht
  cases e<;>simp only[rY,Option.some.injEq,reduceCtorEq]at e1<;>subst e1
  case normal=>rcases hex with hex|hex<;>cases hex;exact uv rfl
  case exit id=>rcases hex with hex|hex<;>cases hex
  case ret=>rcases hex with hex|hex<;>cases hex;exact uv rfl
 | @fn f as H Q fn M hf hnr hn _ h2 ih =>
  intro w0 g w args ck sr hv
  obtain⟨an,xI⟩:=hE.fn f fn hf
  obtain⟨F,code,res,body,hF,hb,qD,uh,jH,a6,au,rfl⟩:=qF xI
  refine⟨jH,callsIn_of_wp hF hb trivial ?_⟩
  have MO:=qG (F:=F) hv hn a6
  refine wpIn_mono (ih w0 g w _ F.ntmps an true code none uh (fun _=>rfl) ck sr MO).1 fun e a' w' DB=>?_
  obtain⟨ex,R',g',H',e1,hm,le,iZ,n6,fr,_,zI⟩:=DB
  obtain⟨R2,hex,v0,MP,hq⟩:=h2 _ _ hm
  have uv:∀(R2:ar),R2=R'→pn R2 H' res=some v0→a'.defers=[]∧∃v,(results F a'.tmps).run P w'=.ok v w'∧sR w0 g w H (fun v H'=>Q (.val v) H') (.returned v) w':=by
   rintro R2 rfl MP
   obtain⟨v,cw,fI⟩:=qE (P:=P) iZ qD au n6 MP
   exact⟨(zI hnr).2,v,cw,v,_,g',H',rfl,hq,le,iZ,fI,fr⟩
  cases e<;>simp only[rY,Option.some.injEq,reduceCtorEq]at e1<;>subst e1
  case normal=>rcases hex with hex|hex<;>cases hex;exact uv _ rfl MP
  case exit id=>rcases hex with hex|hex<;>cases hex
  case ret=>rcases hex with hex|hex<;>cases hex;exact uv _ rfl MP
 | @AW f as H Q b off len n i M hi _ h2 ih =>
  intro w0 g w args ck sr hv
  have au:=(List.getElem?_eq_some_iff.1 hi).1
  have hl:=hv.1
  have QO:=hv.2 i _ _ hi (List.getElem?_eq_getElem (by omega))
  have hex:∃c,len≤c∧VR g w (.dS b off len n c) (args[i]'(by omega)):=by
   generalize args[i]'(by omega)=u at QO
   cases QO with
   | ax h hc hq=>exact⟨_,hc,.dS h hc hq⟩
  obtain⟨c,hc,Hb⟩:=hex
  have IP:bC g w (as.set i (.dS b off len n c)) args:=⟨by simp[hl],fun j t v ha hb=>by
   by_cases e:j=i
   ·subst e
    rw[List.getElem?_set_self au]at ha
    cases ha
    rw[List.getElem?_eq_getElem (by omega)]at hb
    cases hb
    exact Hb
   ·rw[List.getElem?_set_ne (Ne.symm e)]at ha
    exact hv.2 j t v ha hb⟩
  obtain⟨jH,uh⟩:=ih c hc w0 g w args ck sr IP
  refine⟨jH,uh.mono fun e w3 ⟨v,t,g3,H3,he,hM,zG,Bz,fI,Cs⟩=>?_⟩
  exact⟨v,_,g3,H3,he,h2 _ _ hM,zG,Bz,fI.zg,Cs⟩
 | @pE f as H Q M _ h2 ih =>
  intro w0 g w args ck sr hv
  obtain⟨jH,hc⟩:=ih w0 g w args ck sr hv
  refine⟨jH,hc.mono fun e w3 ⟨v,t,g3,H3,he,hM,zG,Bz,fI,Cs⟩=>?_⟩
  obtain⟨t',b,cs,ht,iE,hb,hq⟩:=h2 _ _ hM
  cases ht
  have hφ:∃x,g3.φ b=some x:=by
   cases fI with
   | ax h=>simp only[zh]at iE;subst iE;exact⟨_,h⟩
   | bF hl h2 =>
    obtain⟨off,len,n,hm⟩:=iE
    obtain⟨i,hi⟩:=List.mem_iff_getElem?.1 hm
    have au:=(List.getElem?_eq_some_iff.1 hi).1
    obtain⟨u,hu⟩:∃u,(Array.mk _)[i]?=some u:=⟨_,Array.getElem?_eq_getElem (Nat.lt_of_lt_of_eq au hl.symm)⟩
    have:=h2 i _ _ hi hu
    cases this with
    | ax h=>exact⟨_,h⟩
   | _=>exact iE.elim
  obtain⟨g4,Hg,Hi,Ct,MQ⟩:=Bz.freeze hb hφ
  exact⟨v,_,g4,_,he,hq,zG.trans Hg,Hi,MQ _ _ fI,Cs.trans Ct⟩
 | @CN f as H Q b off len n cs i hi hb _ ih =>
  intro w0 g w args ck sr hv
  have au:=(List.getElem?_eq_some_iff.1 hi).1
  have hl:=hv.1
  have QO:=hv.2 i _ _ hi (List.getElem?_eq_getElem (by omega))
  have hφ:∃x,g.φ b=some x:=by
   generalize args[i]'(by omega)=u at QO
   cases QO with
   | ax h=>exact⟨_,h⟩
  obtain⟨g4,Hg,Hi,Ct,MQ⟩:=sr.freeze hb hφ
  have IP:bC g4 w (as.map (CM b cs)) args:=⟨by simp[hl],fun j t v ha iY=>by
   rw[List.getElem?_map]at ha
   obtain⟨t0,h0,rfl⟩:=Option.map_eq_some_iff.1 ha
   exact MQ _ _ (hv.2 j t0 v h0 iY)⟩
  obtain⟨jH,hc⟩:=ih w0 g4 w args (ck.mono Hg) Hi IP
  exact⟨jH,hc.mono fun e w3 ⟨v,t,g3,H3,he,hM,zG,Bz,fI,Cs⟩=>⟨v,t,g3,H3,he,hM,Hg.trans zG,Bz,fI,Ct.trans Cs⟩⟩
 | @ob f as H Q h =>
  intro w0 g w args ck sr hv
  exact hE.ob f as H _ h w0 g w args sr hv
inductive Sh where
 | int (k:IntKind)|str|bool
 | sl (l:List Sh)
 | ag (l:List Sh)
def BA (P:Program)(f:TypeId→Option (List Sh)):List Field→Nat→Option (List Sh)
 | [],_=>some []
 | x :: xs,off=>match f x.type with
  | some l=>if x.offset=off∧l.length=P.cellsOf x.type then(BA P f xs (off+l.length)).map (l++·)else none
  | none=>none
def zJ (k:Nat)(e:TypeId)(c:Nat):List Field:=(List.range k).map fun i=>{ (default:Field)with type:=e,offset:=i*c }
def rZ (P:Program):Nat→TypeId→Option (List Sh)
 | 0,_=>none
 | n+1,t=>match P.underlying t with
  | some .bool=>some [.bool]
  | some (.int k)=>some [.int k]
  | some .string=>some [.str]
  | some (.slice e)=>match rZ P n e with
   | some l=>if l.length=P.cellsOf e∧l.length≠0 then some [.sl l]else none
   | none=>none
  | some (.struct fs)=>match BA P (rZ P n) fs.toList 0 with
   | some l=>if l.length=P.cellsOf t then some l else none
   | none=>none
  | some (.array k e)=>match BA P (rZ P n) (zJ k e (P.cellsOf e)) 0 with
   | some l=>if l.length=P.cellsOf t then some l else none
   | none=>none
  | _=>none
inductive eu (B:Nat):Sh→T→Prop
 | int {k n} (h:(Lit.int k n).wf=true):eu B (.int k) (.int k n)
 | bool (b):eu B .bool (.bool b)
 | str {s:ByteArray} (h:s.size≤maxLen) (hB:s.size≤B):eu B .str (.str s)
 | nil {l}:eu B (.sl l) (.sl .nil [])
 | sl {l es} (hl:es.length≤maxLen) (hB:es.length≤B) (h0:∀c∈es,c.length=l.length) (h:∀c∈es,∀(j:Nat) (s:Sh) (t:T),l[j]?=some s→c[j]?=some t→eu B s t):eu B (.sl l) (.sl .arg es)
 | ag {l cs} (hl:cs.length=l.length) (h:∀(j:Nat) (s:Sh) (t:T),l[j]?=some s→cs[j]?=some t→eu B s t):eu B (.ag l) (.agg cs)
mutual
def T.bk:T→Nat
 | .str s=>s.size+1
 | .sl _ es=>Cw es+1
 | _=>1
def oG:List T→Nat
 | []=>0
 | t :: ts=>t.bk+oG ts
def Cw:List (List T)→Nat
 | []=>0
 | c :: es=>oG c+Cw es
end
theorem I8 (a b:List T):oG (a++b)=oG a+oG b:=by
 induction a with
 | nil=>simp[oG]
 | cons t a ih=>simp only[List.cons_append,oG,ih];omega
mutual
def bV {H:Type}:DataW H→Nat
 | .lit (.string bytes)=>bytes.length+1
 | .lit _=>1
 | .nil=>1
 | .ptr d=>bV d+1
 | .slice elems spare=>bQ elems+bQ spare+1
 | .agg parts=>bQ parts+1
 | .iface _ d=>bV d+1
 | .map entries=>fu entries+1
 | .held _=>1
def bQ {H:Type}:List (DataW H)→Nat
 | []=>0
 | d :: r=>bV d+bQ r
def fu {H:Type}:List (Lit×DataW H)→Nat
 | []=>0
 | x :: r=>mF x+fu r
def mF {H:Type}:Lit×DataW H→Nat
 | (.string bytes,d)=>bytes.length+bV d+1
 | (_,d)=>bV d+1
end
theorem kS {H:Type}(d:DataW H):1≤bV d:=by
 cases d with
 | lit l=>cases l<;>simp[bV]
 | _=>simp[bV]
theorem oH {H:Type}{d:DataW H}{l:List (DataW H)}(h:d∈l):bV d≤bQ l:=by
 induction l with
 | nil=>cases h
 | cons x r ih =>
  simp only[bQ]
  rcases List.mem_cons.1 h with rfl|h
  ·omega
  ·have:=ih h;omega
theorem DC {H:Type}:∀(es:List (List T)) (ds:List (DataW H)),es.length≤ds.length→(∀(i:Nat) c d,es[i]?=some c→ds[i]?=some d→oG c≤bV d)→Cw es≤bQ ds
 | [],_,_,_=>by simp[Cw]
 | c :: es,[],h,_=>by simp at h
 | c :: es,d :: ds,h,hk=>by
  have h1:=hk 0 c d rfl rfl
  have h2:=DC es ds (by simpa using h) fun i c d a b=>hk (i+1) c d (by simpa using a) (by simpa using b)
  simp only[Cw,bQ];omega
theorem DD {H:Type}(l:List (DataW H)):l.length≤bQ l:=by
 induction l with
 | nil=>simp
 | cons x r ih=>have:=kS x;simp only[bQ,List.length_cons];omega
def g0 (P:Program)(W:World):Ctx:=⟨fun _=>none,fun r _=>if r<W.heap.size then .lU else .free,fun _ _=>none,fun n c k=>∃an,bB P n an false k=some c⟩
theorem sr0 (P:Program)(W:World):SR W (g0 P W) [] W where
 size:=Nat.le_refl _
 jz _ _:=rfl
 AZ r o h:=by simp[g0,h]
 fresh r o h:=by simp only[g0];rw[if_neg (by omega)]
 rP b x h:=by simp[g0]at h
 iQ t e x h:=by simp[g0]at h
 dQ b x h:=by simp at h
 pE r j h:=dn h
 env:=⟨rfl,rfl⟩
theorem ck0 (P:Program)(W:World):fU P (g0 P W):=fun _ _ _=>Iff.rfl
theorem zK {α:Type}{Q:Nat→α→Prop}:∀(n:Nat),(∀i,i<n→∃c,Q i c)→∃l:List α,l.length=n∧∀(i:Nat) (c:α),l[i]?=some c→Q i c
 | 0,_=>⟨[],rfl,by simp⟩
 | n+1,h=>by
  obtain⟨l,hl,hq⟩:=zK n fun i hi=>h i (by omega)
  obtain⟨c,hc⟩:=h n (by omega)
  refine⟨l++[c],by simp[hl],fun i d hd=>?_⟩
  by_cases hi:i<n
  ·rw[List.getElem?_append_left (by omega)]at hd;exact hq i d hd
  ·rw[List.getElem?_append_right (by omega)]at hd
   have:i=n:=by
    have:=(List.getElem?_eq_some_iff.1 hd).1;simp at this;omega
   subst this;simp[hl]at hd;subst hd;exact hc
section
variable {H:Type} {enc:TypeId×Value→H} {P:Program} {W:World} {held:Bool} {B:Nat}
theorem wz {a:Addr}{n:Nat}{cs:List Value}(h:W.cells? 0 a n=some cs):cs.length=n∧∀(j:Nat) (v:Value),cs[j]?=some v→W.cell? (a.add j)=some v:=by
 unfold World.cells? at h
 rw[if_pos (Nat.zero_le _)]at h
 have key:∀(n:Nat) (cs:List Value),(List.range n).mapM (fun i=>W.cell? (a.add i))=some cs→cs.length=n∧∀(j:Nat) (v:Value),cs[j]?=some v→W.cell? (a.add j)=some v:=by
  intro n
  induction n with
  | zero=>intro cs h;simp at h;subst h;simp
  | succ n ih =>
   intro cs h
   rw[List.range_succ,List.mapM_append]at h
   cases h1:(List.range n).mapM (fun i=>W.cell? (a.add i))with
   | none=>simp[h1]at h
   | some l =>
    cases h2:W.cell? (a.add n)with
    | none=>simp[h1,h2]at h
    | some v =>
     simp[h1,h2]at h
     subst h
     obtain⟨k1,k2⟩:=ih l h1
     refine⟨by simp[k1],fun j u hj=>?_⟩
     by_cases x8:j<n
     ·rw[List.getElem?_append_left (by omega)]at hj;exact k2 j u hj
     ·rw[List.getElem?_append_right (by omega)]at hj
      have:j=n:=by
       have:=(List.getElem?_eq_some_iff.1 hj).1;simp at this;omega
      subst this;simp[k1]at hj;subst hj;exact h2
 exact key n cs h
def Reads (enc:TypeId×Value→H)(P:Program)(W:World)(held:Bool)(B:Nat)(t:TypeId)(l:List Sh):Prop :=
 ∀fuel cs d ps,DataW.trod enc P W 0 (fun _=>true) held fuel t cs=some (d,ps)→bV d≤B→cs.length=l.length∧∃ts:List T,bC (g0 P W) W ts cs∧cA ts∧(∀(j:Nat) (s:Sh) (t:T),l[j]?=some s→ts[j]?=some t→eu B s t)∧oG ts≤bV d
theorem jK {f:TypeId→Option (List Sh)}{n:Nat}{cs:List Value}:∀(fs:List Field) (off:Nat) (l:List Sh) (xs:List (DataW H×List MemPlace)),BA P f fs off=some l→(∀x∈fs,∀l',f x.type=some l'→Reads enc P W held B x.type l') →
  xs.length=fs.length→(∀(i:Nat) (x:Field),fs[i]?=some x→DataW.trod enc P W 0 (fun _=>true) held n x.type ((cs.drop x.offset).take (P.cellsOf x.type))=xs[i]?)→(∀x∈xs,bV x.1≤B)→off+l.length≤cs.length →
  ∃ts:List T,bC (g0 P W) W ts ((cs.drop off).take l.length)∧cA ts∧(∀(j:Nat) (s:Sh) (t:T),l[j]?=some s→ts[j]?=some t→eu B s t)∧oG ts≤bQ (xs.map (·.1))
 | [],off,l,xs,h,_,_,_,_,_=>by
  simp only[BA,Option.some.injEq]at h;subst h
  exact⟨[],by simpa using bC.nil,by simp[cA],by simp,by simp[oG]⟩
 | x :: fs,off,l,xs,h,hr,hl,ht,hb,hle=>by
  simp only[BA]at h
  split at h
  ·rename_i l1 h1
   split at h
   ·rename_i hc
    simp only[Option.map_eq_some_iff]at h
    obtain⟨l2,h2,rfl⟩:=h
    cases xs with
    | nil=>simp at hl
    | cons y xs =>
     have t0:=ht 0 x rfl
     simp only[List.getElem?_cons_zero]at t0
     obtain⟨d,ps⟩:=y
     obtain⟨a1,ts1,a2,a3,a4,a5⟩:=hr x (by simp) l1 h1 n _ d ps t0 (hb (d,ps) (by simp))
     obtain⟨ts2,b2,b3,b4,b5⟩:=jK fs (off+l1.length) l2 xs h2 (fun z hz=>hr z (by simp[hz])) (by simpa using hl) (fun i z hz=>by have:=ht (i+1) z (by simpa using hz);simpa using this) (fun z hz=>hb z (by simp[hz])) (by simp at hle;omega)
     have e1:(cs.drop off).take (l1++l2).length=(cs.drop x.offset).take (P.cellsOf x.type)++(cs.drop (off+l1.length)).take l2.length:=by
      rw[hc.1,←hc.2,List.length_append,List.take_add,List.drop_drop]
     have QP:ts1.length=l1.length:=by rw[a2.1,a1]
     refine⟨ts1++ts2,by rw[e1];exact a2.append b2,fun t ht=>?_,fun j s t hs ht=>?_,by rw[I8];simp only[List.map_cons,bQ];omega⟩
     ·rcases List.mem_append.1 ht with h|h
      ·exact a3 t h
      ·exact b3 t h
     ·by_cases hj:j<l1.length
      ·rw[List.getElem?_append_left hj]at hs
       rw[List.getElem?_append_left (by omega)]at ht
       exact a4 j s t hs ht
      ·rw[List.getElem?_append_right (by omega)]at hs
       rw[List.getElem?_append_right (by omega),QP]at ht
       exact b4 _ s t hs ht
   ·cases h
  ·cases h
theorem MR {r o:Nat}{v:Value}(h:W.cell? ⟨r,o,none⟩=some v):AX (g0 P W) W r o v:=⟨by simp[g0,jA h],h⟩
theorem reads:∀(n:Nat) (t:TypeId) (l:List Sh),rZ P n t=some l→Reads enc P W held B t l
 | 0,_,_,h=>by simp[rZ]at h
 | n+1,t,l,h=>by
  intro fuel cs d ps hd hb
  simp only[rZ]at h
  split at h
  ·rename_i hu;cases h
   obtain⟨b,rfl,hx⟩:=DataW.trod_bool hu hd
   exact⟨rfl,[.bool b],bC.cons (.bool b) bC.nil,by simp[cA,T.one],fun j s t hs ht=>by cases j with
    | zero=>simp at hs ht;subst hs;subst ht;exact .bool b
    | succ j=>simp at hs,by have:=kS d;simp only[oG,T.bk];omega⟩
  ·rename_i k hu;cases h
   obtain⟨m,rfl,hx,hw⟩:=DataW.trod_int hu hd
   exact⟨rfl,[.int k m],bC.cons (.int k m) bC.nil,by simp[cA,T.one],fun j s t hs ht=>by cases j with
    | zero=>simp at hs ht;subst hs;subst ht;exact .int hw
    | succ j=>simp at hs,by have:=kS d;simp only[oG,T.bk];omega⟩
  ·rename_i hu;cases h
   obtain⟨s,rfl,hx,hw⟩:=DataW.trod_string hu hd
   cases hx
   exact⟨rfl,[.str s],bC.cons (.str s) bC.nil,by simp[cA,T.one],fun j s' t hs ht=>by cases j with
    | zero=>simp at hs ht;subst hs;subst ht;exact .str hw (by simp[bV]at hb;have:s.data.size=s.size:=rfl;omega)
    | succ j=>simp at hs,by simp only[oG,T.bk,bV];have:s.data.size=s.size:=rfl;simp⟩
  ·rename_i e hu
   split at h
   ·rename_i le he
    split at h
    ·rename_i hc
     cases h
     have ih:=reads n e le he
     rcases DataW.trod_slice hu hd with⟨rfl,hx⟩|⟨a,len,cap,elems,rest,m,_,rfl,hx,_,h1,h2,h3,h4,h5,_⟩
     ·exact⟨rfl,[.sl .nil []],bC.cons .slnil bC.nil,by simp[cA,T.one],fun j s t hs ht=>by cases j with
       | zero=>simp at hs ht;subst hs;subst ht;exact .nil
       | succ j=>simp at hs,by have:=kS d;simp only[oG,T.bk,Cw];omega⟩
     ·cases hx
      have QQ:∀x∈elems,bV x.1≤B:=fun x hx=>by
       have:=oH (List.mem_map_of_mem (f:=(·.1)) hx);simp only[bV]at hb;omega
      have hlB:len≤B:=by
       have:=DD (elems.map (·.1));simp only[bV]at hb;simp at this;omega
      have Dd:∀i,i<len→∃c:List T,c.length=le.length∧∃us,W.cells? 0 (a.add (i*P.cellsOf e)) (P.cellsOf e)=some us∧bC (g0 P W) W c us∧cA c∧(∀(j:Nat) (s:Sh) (t:T),le[j]?=some s→c[j]?=some t→eu B s t)∧∀d,(elems.map (·.1))[i]?=some d→oG c≤bV d:=by
       intro i hi
       have hk:=h4 i hi
       have ka:i<elems.length:=by omega
       rw[List.getElem?_eq_getElem ka]at hk
       obtain⟨us,k1,k2⟩:=Option.bind_eq_some_iff.1 hk
       obtain⟨q1,ts,q2,q3,q4,q5⟩:=ih m us elems[i].1 elems[i].2 k2 (QQ _ (List.getElem_mem ka))
       exact⟨ts,by rw[q2.1,q1],us,k1,q2,q3,q4,fun d hd=>by rw[List.getElem?_map,List.getElem?_eq_getElem ka]at hd;simp only[Option.map_some,Option.some.injEq]at hd;subst hd;exact q5⟩
      obtain⟨es,he1,KU⟩:=zK len Dd
      have I9:eu B (.sl le) (.sl .arg es):=.sl (by omega) (by omega) (fun c hc=>by
       obtain⟨i,hi,rfl⟩:=List.getElem_of_mem hc
       exact(KU i _ (List.getElem?_eq_getElem hi)).1) (fun c hc=>by
       obtain⟨i,hi,rfl⟩:=List.getElem_of_mem hc
       obtain⟨_,_,_,_,_,q,_⟩:=KU i _ (List.getElem?_eq_getElem hi)
       exact q)
      have fI:VR (g0 P W) W (.sl .arg es) (.slice (some a) len cap):=by
       by_cases na:cap=0
       ·have:len=0:=by omega
        subst this;subst na
        have:es=[]:=List.eq_nil_of_length_eq_zero he1
        subst this;exact .iw _
       ·have KV:a.spot=none:=by
         have kF:∃us,W.cells? 0 (a.add (0*P.cellsOf e)) (P.cellsOf e)=some us:=by
          by_cases hl:0<len
          ·obtain⟨_,_,us,k,_⟩:=Dd 0 hl;exact⟨us,k⟩
          ·have h0:len=0:=by omega
           obtain⟨k1,k2⟩:=h5 rfl
           have:=k2 0 (by omega)
           have hr:0<rest.length:=by omega
           rw[List.getElem?_eq_getElem hr,h0]at this
           obtain⟨us,k3,_⟩:=Option.bind_eq_some_iff.1 this
           exact⟨us,by simpa using k3⟩
         obtain⟨us,hus⟩:=kF
         obtain⟨k1,k2⟩:=wz hus
         have Ms:0<us.length:=by omega
         have mr:=k2 0 us[0] (List.getElem?_eq_getElem Ms)
         unfold World.cell? at mr
         split at mr
         ·split at mr
          ·cases mr
          ·rename_i zm;simpa[Addr.add]using zm
         ·cases mr
        obtain⟨r,o,sp⟩:=a
        simp only at KV;subst KV
        rw[←he1]
        have hn:∀c∈es,c.length=le.length:=fun c hc=>by
         obtain⟨i,hi,rfl⟩:=List.getElem_of_mem hc
         exact(KU i _ (List.getElem?_eq_getElem hi)).1
        have kF:∀(i j:Nat) (c:List T) (t:T),es[i]?=some c→c[j]?=some t→∃v,W.cell? ⟨r,o+i*le.length+j,none⟩=some v∧VR (g0 P W) W t v∧t.one=true:=by
         intro i j c t hi hj
         obtain⟨q1,us,q2,q3,q4,_⟩:=KU i c hi
         obtain⟨k1,k2⟩:=wz q2
         have hju:j<us.length:=by rw[←q3.1];exact(List.getElem?_eq_some_iff.1 hj).1
         refine⟨us[j],?_,q3.2 j t _ hj (List.getElem?_eq_getElem hju),q4 t (List.mem_of_getElem? hj)⟩
         have:=k2 j us[j] (List.getElem?_eq_getElem hju)
         rw[←hc.1,dc,dc]at this
         exact this
        refine .sl (n:=le.length) (fun i j=>(W.cell? ⟨r,o+i*le.length+j,none⟩).getD undef) trivial (by omega) hn (fun i j c t hi hj=>?_) (fun i j c t hi hj=>?_)
        ·obtain⟨v,q1,q2,q3⟩:=kF i j c t hi hj
         exact⟨q3,by rw[q1];exact MR q1⟩
        ·obtain⟨v,q1,q2,q3⟩:=kF i j c t hi hj
         rw[q1];exact q2
      exact⟨rfl,[.sl .arg es],bC.cons fI bC.nil,by simp[cA,T.one],fun j s t hs ht=>by cases j with
       | zero=>simp at hs ht;subst hs;subst ht;exact I9
       | succ j=>simp at hs,by
       have PK:=DC es (elems.map (·.1)) (by simp;omega) fun i c d hc hd=>by
        obtain⟨_,_,_,_,_,_,q⟩:=KU i c hc
        exact q d hd
       simp only[oG,T.bk,bV];omega⟩
    ·cases h
   ·cases h
  ·rename_i fs hu
   split at h
   ·rename_i l' yl
    split at h
    ·rename_i hc
     cases h
     obtain⟨xs,m,_,hx,k1,k2,k3⟩:=DataW.trod_struct hu hd
     cases hx
     have QQ:∀x∈xs,bV x.1≤B:=fun x hx=>by
      have:=oH (List.mem_map_of_mem (f:=(·.1)) hx);simp only[bV]at hb;omega
     obtain⟨ts,a1,a2,a3,a4⟩:=jK (n:=m) (cs:=cs) fs.toList 0 l xs yl (fun x _ l2 h2=>reads n x.type l2 h2) (by simpa using k2) (fun i x hi=>k3 i x (by simpa using hi)) QQ (by omega)
     have e1:(cs.drop 0).take l.length=cs:=by rw[List.drop_zero,hc,←k1];simp
     rw[e1]at a1
     exact⟨by omega,ts,a1,a2,a3,by simp only[bV];omega⟩
    ·cases h
   ·cases h
  ·rename_i k e hu
   split at h
   ·rename_i l' yl
    split at h
    ·rename_i hc
     cases h
     obtain⟨xs,m,_,hx,k1,k2,k3⟩:=DataW.trod_array hu hd
     cases hx
     have QQ:∀x∈xs,bV x.1≤B:=fun x hx=>by
      have:=oH (List.mem_map_of_mem (f:=(·.1)) hx);simp only[bV]at hb;omega
     obtain⟨ts,a1,a2,a3,a4⟩:=jK (n:=m) (cs:=cs) (zJ k e (P.cellsOf e)) 0 l xs yl (fun x hx l2 h2=>by
      obtain⟨i,_,rfl⟩:=List.mem_map.1 hx;exact reads n e l2 h2) (by rw[k2];simp[zJ]) (fun i x hi=>by
      simp only[zJ,List.getElem?_map,Option.map_eq_some_iff]at hi
      obtain⟨j,hj,rfl⟩:=hi
      obtain⟨h1,h2⟩:=List.getElem?_eq_some_iff.1 hj
      rw[List.getElem_range]at h2
      subst h2
      exact k3 i (by simpa using h1)) QQ (by omega)
     have e1:(cs.drop 0).take l.length=cs:=by rw[List.drop_zero,hc,←k1];simp
     rw[e1]at a1
     exact⟨by omega,ts,a1,a2,a3,by simp only[bV];omega⟩
    ·cases h
   ·cases h
  ·cases h
def DE (P:Program)(t:TypeId):Option Sh:=match P.underlying t with
 | some .bool|some (.int _)|some .string|some (.slice _)=>match rZ P 9 t with
  | some [s]=>some s
  | _=>none
 | some (.struct _)|some (.array _ _)=>match rZ P 9 t with
  | some l=>some (.ag l)
  | none=>none
 | _=>none
def qI (P:Program):List TypeId→Option (List Sh)
 | []=>some []
 | t :: ts=>match DE P t,qI P ts with
  | some s,some l=>some (s :: l)
  | _,_=>none
inductive oI (B:Nat):List Sh→List T→Prop
 | nil:oI B [] []
 | cons {s t ss ts} (h:eu B s t) (hs:oI B ss ts):oI B (s :: ss) (t :: ts)
theorem DF {base:Nat}{t:TypeId}{s:Sh}{v:Value}{d:DataW H}{p:List MemPlace}(h:DE P t=some s)(hv:Value.okWide P W .any base t v)(hf:DataW.Trod enc P W 0 (fun _=>true) held t v d p)(hB:bV d≤B) :
  ∃u:T,VR (g0 P W) W u v∧eu B s u∧u.bk≤bV d:=by
 obtain⟨fuel,hf⟩:=hf
 have one:(∀cs,v≠.agg cs)→v.cells.toList=[v]:=by
  intro h;cases v<;>first|rfl|exact absurd rfl (h _)
 have sc:v.cells.toList=[v]→(match rZ P 9 t with|some [s]=>some s|_=>none)=some s→∃u:T,VR (g0 P W) W u v∧eu B s u∧u.bk≤bV d:=by
  intro Wv h
  split at h
  ·rename_i s' h3
   cases h
   obtain⟨c1,us,c2,c3,c4,c5⟩:=reads (B:=B) 9 t [s] h3 fuel _ d p hf hB
   rw[Wv]at c2
   have hul:us.length=1:=by have:=c2.1;simpa using this
   obtain⟨u,rfl⟩:∃u,us=[u]:=by
    cases us with
    | nil=>simp at hul
    | cons u us'=>cases us' with
     | nil=>exact⟨u,rfl⟩
     | cons _ _=>simp at hul
   exact⟨u,c2.head,c4 0 s u rfl rfl,by simp only[oG]at c5;omega⟩
  ·cases h
 have ag:(∃cs,v=.agg cs)→(match rZ P 9 t with|some l=>some (Sh.ag l)|none=>none)=some s→∃u:T,VR (g0 P W) W u v∧eu B s u∧u.bk≤bV d:=by
  rintro⟨cs,rfl⟩ h
  split at h
  ·rename_i l h3
   cases h
   obtain⟨c1,us,c2,c3,c4,c5⟩:=reads (B:=B) 9 t l h3 fuel _ d p hf hB
   have hc:(Value.agg cs).cells.toList=cs.toList:=rfl
   rw[hc]at c1 c2
   refine⟨.agg us,.agg (by have:=c2.1;simpa using this.symm) c3 (fun i t v a b=>c2.2 i t v a (by simpa using b)),.ag (by rw[c2.1,c1]) c4,by have:=kS d;simp only[T.bk];omega⟩
  ·cases h
 simp only[DE]at h
 split at h
 ·rename_i hu
  exact sc (one (by rintro cs rfl;simp[Value.okWide,hu,Cell.okWide,Cell.ok]at hv)) h
 ·rename_i hu
  exact sc (one (by rintro cs rfl;simp[Value.okWide,hu,Cell.okWide,Cell.ok]at hv)) h
 ·rename_i hu
  exact sc (one (by rintro cs rfl;simp[Value.okWide,hu,Cell.okWide,Cell.ok]at hv)) h
 ·rename_i hu
  exact sc (one (by rintro cs rfl;simp[Value.okWide,hu,Cell.okWide,Cell.ok]at hv)) h
 ·rename_i hu
  exact ag (by cases v<;>first|exact⟨_,rfl⟩|simp[Value.okWide,hu]at hv) h
 ·rename_i hu
  exact ag (by cases v<;>first|exact⟨_,rfl⟩|simp[Value.okWide,hu]at hv) h
 ·cases h
theorem sY {base:Nat}:∀(ts:List TypeId) (Ja:List Sh) (args:List Value) (ds:List (DataW H)) (p:List MemPlace),qI P ts=some Ja→(∀(j:Nat) t v,ts[j]?=some t→args[j]?=some v→Value.okWide P W .any base t v) →
  DataW.TrodAll enc P W 0 (fun _=>true) held ts args ds p→bQ ds≤B→∃as:List T,bC (g0 P W) W as args∧oI B Ja as∧oG as≤bQ ds
 | [],Ja,args,ds,p,h,_,hA,_=>by
  cases args<;>cases ds<;>simp[DataW.TrodAll]at hA
  simp only[qI,Option.some.injEq]at h;subst h
  exact⟨[],bC.nil,.nil,by simp[oG]⟩
 | t :: ts,Ja,args,ds,p,h,BB,hA,hB=>by
  cases args with
  | nil=>cases ds<;>simp[DataW.TrodAll]at hA
  | cons v args =>
   cases ds with
   | nil=>simp[DataW.TrodAll]at hA
   | cons d ds =>
    obtain⟨p,q,hf,h2,_⟩:=hA
    simp only[qI]at h
    split at h
    ·rename_i s l h3 h4
     cases h
     simp only[bQ]at hB
     obtain⟨as,b1,b2,b3⟩:=sY ts l args ds q h4 (fun j t v a b=>BB (j+1) t v (by simpa using a) (by simpa using b)) h2 (by omega)
     obtain⟨u,c1,c2,c3⟩:=DF (B:=B) (base:=base) (d:=d) (p:=p) h3 (BB 0 t v rfl rfl) hf (by omega)
     refine⟨u :: as,bC.cons c1 b1,.cons c2 b2,?_⟩
     show T.bk u+oG as≤bV d+bQ ds
     omega
    ·cases h
end
end Go.Rmp
end

section
namespace Go.Rmp
open Go.ChangeShapes Go.RowKit
section
variable {H:Type} {enc:TypeId×Value→H} {P:Program} {W W':World}
theorem mj {sp:Nat→Bool}{held:Bool}:∀(ts:List TypeId) (vs:List Value) (ds:List (DataW H)) (ps:List MemPlace),DataW.TrodAll enc P W 0 sp held ts vs ds ps→(∀p∈ps,W.sameAt W' p)→DataW.TrodAll enc P W' 0 sp held ts vs ds ps
 | [],[],[],_,h,_=>h
 | t :: ts,v :: vs,d :: ds,ps,⟨p,q,⟨n,hn⟩,h2,e⟩,hs=>⟨p,q,⟨n,DataW.trod_carry n t _ _ hn (fun x hx=>hs x (by rw[e];exact List.mem_append_left _ hx))⟩,mj ts vs ds q h2 (fun x hx=>hs x (by rw[e];exact List.mem_append_right _ hx)),e⟩
 | [],_ :: _,_,_,h,_=>h.elim
 | [],[],_ :: _,_,h,_=>h.elim
 | _ :: _,[],_,_,h,_=>h.elim
 | _ :: _,_ :: _,[],_,h,_=>h.elim
theorem DG {g:Ctx}{Hh:af}(h:SR W g Hh W'):Grown W W':=by
 refine⟨⟨h.env.1,h.env.2,fun i hi=>?_⟩,fun a=>?_,h.size⟩
 ·rw[h.jz i hi]
  have:=World.keptBut_refl W (fun _=>False)
  exact this.2.2 i hi
 ·by_cases ha:a.block<W.heap.size
  ·unfold World.frozen?;rw[h.jz _ ha]
  ·have h1:=h.pE a.block a.off (by omega)
   have h2:=dn (w:=W) (r:=a.block) (j:=a.off) (by omega)
   exact h1.trans h2.symm
theorem BC {E:Env}(hE:zC P E){f:FuncId}{as:List T}{args:List Value}(hv:bC (g0 P W) W as args)(hW:Go.Rmp.W E (.call f as) [] (fun o _=>o=.val (.bool true))) :
  Calls P f args.toArray W fun e W'=>e=.returned (.bool true)∧Grown W W'∧∀r,r<W.heap.size→W'.heap[r]?=W.heap[r]?:=by
 obtain⟨_,hc⟩:=Go.Rmp.W.sim hE hW W (g0 P W) W args (ck0 P W) (sr0 P W) hv
 refine(callsIn_wide.1 hc).mono fun e W' ⟨v,t,g',H',he,hq,_,sr,fI,_⟩=>?_
 cases hq
 cases fI
 exact⟨he,DG sr,sr.jz⟩
theorem sb {E:Env}(hE:zC P E){f:FuncId}{fn:Func}{s:ChangeSpec}{Ja:List Sh}{B:Nat}{tb:TypeId}(K:Kids P (·<P.types.size))(hz:∀t e,t<P.types.size→P.underlying t=some (.slice e)→0<P.cellsOf e)
  (I9:qI P fn.params.toList=some Ja) (au:∀t∈fn.params.toList,t<P.types.size) (hrt:fn.resultTypes=#[tb]) (htb:P.underlying tb=some .bool) (KW:s.vars=[])
  (xI:∀ds:List (DataW H),ds.length=fn.params.toList.length→s.fn H ds={ results:=[.lit (.bool true)],args:=ds })
  (Ww:∀as:List T,oI B Ja as→oG as≤B→Go.Rmp.W E (.call f as) [] (fun o _=>o=.val (.bool true)))
  (base:Nat) (args:Array Value) (ds gs:List (DataW H)) (before:List MemPlace)
  (BB:∀(j:Nat) t v,fn.params[j]?=some t→args[j]?=some v→Value.okWide P W .any base t v)
  (hW:DataW.Whole enc P fn.params.toList s.vars false W args.toList ds gs before) (hB:bQ (ds++gs)≤B) :
  Calls P f args W fun e W'=>∃v,e=.returned v∧s.post enc P fn false true false false W args v W':=by
 have hW':=hW
 obtain⟨p,q,hA,hV,Qi,hfz,fB⟩:=hW
 rw[KW]at hV
 obtain⟨rfl,rfl⟩:gs=[]∧q=[]:=by
  cases gs with
  | nil=>exact⟨rfl,hV⟩
  | cons _ _=>exact hV.elim
 simp only[List.append_nil]at Qi hB
 subst Qi
 obtain⟨as,iq,hss,PK⟩:=sY fn.params.toList Ja args.toList ds before I9 (fun j t v a b=>BB j t v (by simpa using a) (by simpa using b)) hA hB
 have hc:=BC hE iq (Ww as hss (Nat.le_trans PK hB))
 rw[Array.toArray_toList]at hc
 refine hc.mono fun e W' ⟨he,hg,hold⟩=>⟨_,he,?_⟩
 have hlen:ds.length=fn.params.toList.length:=(trodAll_length hA).2
 have MS:=xI ds hlen
 refine post_of_same (pa:=before) (pv:=[]) hW' (fun b sp hd=>?_) (fun sp zm=>?_) (fun sp _=>?_) (by simp) (hg.frame _) hg.2.1 (fun j t r hj hr=>?_)
 ·rw[List.append_nil,MS,hrt]
  simp only[Value.resultList]
  exact trodAll_mk1 (shut_bool htb _)
 ·rw[List.append_nil,MS]
  refine DataW.TrodAll.respare K hz au (mj _ _ _ _ hA fun x hx=>?_) zm
  have hb:=hW'.lt x hx
  cases x with
  | cell b o=>simp only[World.sameAt,World.cell?];rw[hold b hb]
  | map b=>exact hold b hb
 ·rw[List.append_nil,MS,KW];rfl
 ·rw[hrt]at hj hr
  cases j with
  | zero=>simp[Value.resultList]at hj hr;subst hj;subst hr;exact okWide_bool_mk htb _
  | succ j=>simp at hj
end
end Go.Rmp
end

section
namespace Go.Rmp
def uw (R:ar)(H:af):List Rd→Prop
 | []=>True
 | r :: l=>(bL R r.g=true→al R H r.op=some (R r.d,H))∧uw R H l
theorem mG {R:ar}{H:af}:∀(l:List Rd),uw R H l→jy R H l
 | [],_=>fun r h=>by cases h
 | x :: l,h=>fun r hr=>by
  rcases List.mem_cons.1 hr with rfl|hr
  ·exact h.1
  ·exact mG l h.2 r hr
theorem DH (R:ar)(d:Nat)(v:T):bu R (some d) v=nX R d v:=rfl
theorem DI (R:ar)(v:T):bu R none v=R:=rfl
theorem DJ (R:ar)(d:Nat)(v:T)(t:Nat):nX R d v t=if t=d then v else R t:=rfl
theorem zL (a:T)(l:List T):gr (a :: l) 0=a:=rfl
theorem QR (R:ar)(t:Nat):X.ev R (.r t)=R t:=rfl
theorem QS (R:ar)(v:T):X.ev R (.c v)=v:=rfl
def DK (R:ar)(g:Gd)(s:List Rd):Bo→Prop
 | .mS _ c x y=>g=none∧s=[]∧c=.slice∧x.ev R=.sl .arg []∧y.ev R=.sl .nil []
 | _=>False
structure Wx (E:Env)(R:ar)(H:af)(x:X)(az:List X)(P:af→Bool→Prop)(b n:Nat)(R0:ar)(ps:List Nat)(bZ body:C)(M1 M:Out→af→Prop):Prop where
 hf:x.ev R=.mR b
 hb:H[b]?=some (.loop .ready none n R0 ps bZ body)
 hn:az.length=ps.length
 h1:W E (.code bZ (iv R0 ps (az.map (X.ev R)))) H M1
 AU:∀o H',M1 o H'→(∃R1,o=.ex .normal R1)∧H'[b]?=some (.loop .ready none n R0 ps bZ body)
 h2:∀R1 H1,M1 (.ex .normal R1) H1→W E (.code body R1) (H1.set b (.loop .busy none n R0 ps bZ body)) M
 AV:∀o H',M o H'→H'[b]?=some (.loop .busy none n R0 ps bZ body)
 h3:∀R' H',M (.ex .normal R') H'→P (H'.set b (.loop .ready none n R0 ps bZ body)) true
 h4:∀e R' H',M (.ex e R') H'→e≠.normal→P (H'.set b (.loop .done (some e) n R0 ps bZ body)) false
def fv (E:Env):List O→ar→af→(ar→af→Prop)→Prop
 | [],R,H,K=>K R H
 | ⟨d,.b b,g,s⟩ :: l,R,H,K=>match bL R g with
  | false=>fv E l (bu R d bX) H K
  | true=>match al R H b with
   | some (v,H')=>uw R H' s∧fv E l (bu R d v) H' K
   | none=>(DK R g s b∧∀t:Bool,fv E l (bu R d (.bool t)) H K) ∨
    ∃x bb bi es ix cur,b=.pD x∧x.ev R=.ptr bi 0∧H[bb]?=some (.cQ es ix bi cur)∧∀t H',m5 H bb bi es ix t H'→uw R H' s∧fv E l (bu R d t) H' K
 | ⟨d,.call f az,g,s⟩ :: l,R,H,K=>match bL R g with
  | false=>fv E l (bu R d bX) H K
  | true=>∃M:Out→af→Prop,W E (.call f (az.map (X.ev R))) H M∧∀v H',M (.val v) H'→uw R H' s∧fv E l (bu R d v) H' K
 | ⟨d,.bA x az,g,s⟩ :: l,R,H,K=>match bL R g with
  | false=>fv E l (bu R d bX) H K
  | true=>(∃(f:Nat) (cs:List T) (M:Out→af→Prop),x.ev R=.fn f cs∧W E (.call f (az.map (X.ev R)++cs)) H M∧∀v H',M (.val v) H'→uw R H' s∧fv E l (bu R d v) H' K) ∨
   ∃b n R0 ps bZ body M1 M,Wx E R H x az (fun H' t=>uw R H' s∧fv E l (bu R d (.bool t)) H' K) b n R0 ps bZ body M1 M
theorem gW {E:Env}{Q:Out→af→Prop}:∀(l:List O) (R:ar) (H:af),fv E l R H (fun R' H'=>Q (.ex .normal R') H')→W E (.ops l R) H Q
 | [],R,H,h=>.nil h
 | ⟨d,.b b,g,s⟩ :: l,R,H,h=>by
  simp only[fv]at h
  split at h
  ·rename_i hw;exact .no hw (gW l _ _ h)
  ·rename_i hw
   split at h
   ·rename_i v H' he;exact .op hw he (mG _ h.1) (gW l _ _ h.2)
   ·rcases h with h|⟨x,bb,bi,es,ix,cur,rfl,hx,hb,h⟩
    ·cases b with
     | mS neg c x y =>
      obtain⟨⟨hg,hs,hc,hx,hy⟩,h⟩:=h
      subst hg
      exact .AS hs (fun t=>gW l _ _ (h t)) hx hy hc
     | _=>exact h.1.elim
    ·exact .pD hw hx hb (fun t H' hm=>mG _ (h t H' hm).1) fun t H' hm=>gW l _ _ (h t H' hm).2
 | ⟨d,.call f az,g,s⟩ :: l,R,H,h=>by
  simp only[fv]at h
  split at h
  ·rename_i hw;exact .no hw (gW l _ _ h)
  ·rename_i hw
   obtain⟨M,h1,h2⟩:=h
   exact .call M hw h1 (fun v H' hm=>mG _ (h2 v H' hm).1) (fun v H' hm=>gW l _ _ (h2 v H' hm).2)
 | ⟨d,.bA x az,g,s⟩ :: l,R,H,h=>by
  simp only[fv]at h
  split at h
  ·rename_i hw;exact .no hw (gW l _ _ h)
  ·rename_i hw
   rcases h with⟨f,cs,M,hf,h1,h2⟩|⟨b,n,R0,ps,bZ,body,M1,M,h⟩
   ·exact .bA M hw hf h1 (fun v H' hm=>mG _ (h2 v H' hm).1) (fun v H' hm=>gW l _ _ (h2 v H' hm).2)
   ·exact .mR M1 M hw h.hf h.hb h.hn h.h1 h.AU h.h2 h.AV (fun R' H' hm=>mG _ (h.h3 R' H' hm).1) (fun R' H' hm=>gW l _ _ (h.h3 R' H' hm).2) (fun e R' H' hm he=>mG _ (h.h4 e R' H' hm he).1) (fun e R' H' hm he=>gW l _ _ (h.h4 e R' H' hm he).2)
def ny (K:ar→af→Prop)(Q:Out→af→Prop):Out→af→Prop
 | .ex .normal R,H=>K R H
 | o,H=>Q o H
def jL (id:Nat)(Q:Out→af→Prop):Out→af→Prop
 | .ex (.exit i) R,H=>if i=id then Q (.ex .normal R) H else Q (.ex (.exit i) R) H
 | o,H=>Q o H
def eF (E:Env):C→ar→af→(Out→af→Prop)→Prop
 | .skip,R,H,Q=>Q (.ex .normal R) H
 | .ops l,R,H,Q=>fv E l R H fun R' H'=>Q (.ex .normal R') H'
 | .seq a b,R,H,Q=>eF E a R H (ny (fun R' H'=>eF E b R' H' Q) Q)
 | .cond x a b,R,H,Q=>match x.ev R with
  | .bool true=>eF E a R H Q
  | .bool false=>eF E b R H Q
  | _=>False
 | .block id a,R,H,Q=>eF E a R H (jL id Q)
 | .exit id,R,H,Q=>Q (.ex (.exit id) R) H
 | .ret,R,H,Q=>Q (.ex .ret R) H
 | .loop a,R,H,Q=>W E (.code (.loop a) R) H Q
 | .cJ n x ps a b,R,H,Q=>W E (.code (.cJ n x ps a b) R) H Q
theorem gX {E:Env}:∀(c:C) (R:ar) (H:af) (Q:Out→af→Prop),eF E c R H Q→W E (.code c R) H Q
 | .skip,R,H,Q,h=>.skip h
 | .ops l,R,H,Q,h=>.Pr (gW l R H h)
 | .seq a b,R,H,Q,h=>.seq _ (gX a R H _ h) (fun R' H' hm=>gX b R' H' Q hm) (fun o H' hm hn=>by
  cases o with
  | ex e R'=>cases e with
   | normal=>exact absurd rfl (hn R')
   | exit id=>exact hm
   | ret=>exact hm
  | val v=>exact hm)
 | .cond x a b,R,H,Q,h=>by
  simp only[eF]at h
  split at h
  ·rename_i hx;exact .cond true hx (gX a R H Q h)
  ·rename_i hx;exact .cond false hx (gX b R H Q h)
  ·exact h.elim
 | .block id a,R,H,Q,h=>.block _ (gX a R H _ h) (fun R' H' hm=>by simpa[jL]using hm) (fun o H' hm hn=>by
  cases o with
  | ex e R'=>cases e with
   | normal=>exact hm
   | exit i =>
    simp only[jL]at hm
    split at hm
    ·rename_i e;subst e;exact absurd rfl (hn R')
    ·exact hm
   | ret=>exact hm
  | val v=>exact hm)
 | .exit id,R,H,Q,h=>.exit h
 | .ret,R,H,Q,h=>.ret h
 | .loop a,R,H,Q,h=>h
 | .cJ n x ps a b,R,H,Q,h=>h
section
variable (E:Env) (R:ar) (H:af) (K:ar→af→Prop) (Q:Out→af→Prop) (l:List O) (d:Option Nat) (s:List Rd)
def U5:T→Bool
 | .bool c=>c
 | _=>false
def U6:T→Bool
 | .bool c=>!c
 | _=>false
def kT (b:Bo)(g:Gd)(e:Option (T×af)):Prop:=match e with
 | some (v,H')=>uw R H' s∧fv E l (bu R d v) H' K
 | none=>(DK R g s b∧∀t:Bool,fv E l (bu R d (.bool t)) H K) ∨
  ∃x bb bi es ix cur,b=.pD x∧x.ev R=.ptr bi 0∧H[bb]?=some (.cQ es ix bi cur)∧∀t H',m5 H bb bi es ix t H'→uw R H' s∧fv E l (bu R d t) H' K
def Jb (b:Bo)(g:Gd)(w:Bool):Prop:=match w with
 | false=>fv E l (bu R d bX) H K
 | true=>kT E R H K l d s b g (al R H b)
def QT (v:T)(H':af):Prop:=uw R H' s∧fv E l (bu R d v) H' K
def wB (f:Nat)(az:List T):Prop:=∃M:Out→af→Prop,W E (.call f az) H M∧∀v H',M (.val v) H'→QT E R K l d s v H'
def Jc (f:Nat)(az:List X)(w:Bool):Prop:=match w with
 | false=>fv E l (bu R d bX) H K
 | true=>wB E R H K l d s f (az.map (X.ev R))
def cy (t:T)(az:List X):Prop:=match t with
 | .fn f cs=>wB E R H K l d s f (az.map (X.ev R)++cs)
 | _=>False
def KX (R:ar)(H:af):Prop:=Q (.ex .normal R) H
def KY (b:C)(R:ar)(H:af):Prop:=eF E b R H Q
def sZ (a b:C)(t:T):Prop:=match t with
 | .bool true=>eF E a R H Q
 | .bool false=>eF E b R H Q
 | _=>False
theorem KZ:fv E [] R H K=K R H:=rfl
theorem b_b (b:Bo):fv E (⟨d,.b b,none,s⟩ :: l) R H K=kT E R H K l d s b none (al R H b):=rfl
theorem b_g (b:Bo)(g:Nat×Bool):fv E (⟨d,.b b,some g,s⟩ :: l) R H K=Jb E R H K l d s b (some g) (bL R (some g)):=by simp only[fv,Jb];rfl
theorem b_c (f:Nat)(az:List X):fv E (⟨d,.call f az,none,s⟩ :: l) R H K=wB E R H K l d s f (az.map (X.ev R)):=rfl
theorem QU (f:Nat)(az:List X)(g:Nat×Bool):fv E (⟨d,.call f az,some g,s⟩ :: l) R H K=Jc E R H K l d s f az (bL R (some g)):=by simp only[fv,Jc];rfl
theorem U7 {x:X}{az:List X}(h:cy E R H K l d s (x.ev R) az):fv E (⟨d,.bA x az,none,s⟩ :: l) R H K:=by
 unfold cy at h
 split at h
 ·rename_i f cs hx
  obtain⟨M,h1,h2⟩:=h
  exact .inl ⟨f,cs,M,hx,h1,h2⟩
 ·exact h.elim
theorem kV {g:Gd}{x:X}{az:List X}(hg:bL R g=true)(h:cy E R H K l d s (x.ev R) az):fv E (⟨d,.bA x az,g,s⟩ :: l) R H K:=by
 simp only[fv,hg]
 unfold cy at h
 split at h
 ·rename_i f cs hx
  obtain⟨M,h1,h2⟩:=h
  exact .inl ⟨f,cs,M,hx,h1,h2⟩
 ·exact h.elim
theorem QV {g:Nat×Bool}{x:X}{az:List X}(hg:bL R (some g)=false):fv E (⟨d,.bA x az,some g,s⟩ :: l) R H K=fv E l (bu R d bX) H K:=by
 simp only[fv,hg]
theorem DL (neg:Bool)(c:HC)(x y:X):kT E R H K l d s (.mS neg c x y) none none=((s=[]∧c=.slice∧x.ev R=.sl .arg []∧y.ev R=.sl .nil [])∧∀t:Bool,fv E l (bu R d (.bool t)) H K):=by simp only[kT,DK,true_and,reduceCtorEq,false_and,exists_false,or_false]
theorem ym {x:X}{g:Gd}{bb bi:Nat}{es:List (T×T)}{ix:List Nat}{cur:Option Nat}(hx:x.ev R=.ptr bi 0)(hb:H[bb]?=some (.cQ es ix bi cur))(h:∀t H',m5 H bb bi es ix t H'→uw R H' s∧fv E l (bu R d t) H' K):kT E R H K l d s (.pD x) g none:=.inr ⟨x,bb,bi,es,ix,cur,rfl,hx,hb,h⟩
theorem DM (b:Bo)(g:Gd)(v:T)(H':af):kT E R H K l d s b g (some (v,H'))=(uw R H' s∧fv E l (bu R d v) H' K):=rfl
theorem K0 (b:Bo)(g:Gd):Jb E R H K l d s b g true=kT E R H K l d s b g (al R H b):=rfl
theorem K1 (b:Bo)(g:Gd):Jb E R H K l d s b g false=fv E l (bu R d bX) H K:=rfl
theorem DN (f:Nat)(az:List X):Jc E R H K l d s f az true=wB E R H K l d s f (az.map (X.ev R)):=rfl
theorem DP (f:Nat)(az:List X):Jc E R H K l d s f az false=fv E l (bu R d bX) H K:=rfl
theorem ae {f:Nat}{az:List T}(M:Out→af→Prop)(h1:W E (.call f az) H M)(h2:∀v H',M (.val v) H'→uw R H' s∧fv E l (bu R d v) H' K):wB E R H K l d s f az:=⟨M,h1,h2⟩
theorem DQ:eF E .skip R H Q=Q (.ex .normal R) H:=rfl
theorem K3:eF E (.ops l) R H Q=fv E l R H (KX Q):=rfl
theorem zM:KX Q R H=Q (.ex .normal R) H:=rfl
theorem fE (a b:C):eF E (.seq a b) R H Q=eF E a R H (ny (KY E Q b) Q):=rfl
theorem DR (x:X)(a b:C):eF E (.cond x a b) R H Q=sZ E R H Q a b (x.ev R):=rfl
theorem pO (id:Nat)(a:C):eF E (.block id a) R H Q=eF E a R H (jL id Q):=rfl
theorem DS (id:Nat):eF E (.exit id) R H Q=Q (.ex (.exit id) R) H:=rfl
theorem K4:eF E .ret R H Q=Q (.ex .ret R) H:=rfl
theorem DT (a:C):eF E (.loop a) R H Q=W E (.code (.loop a) R) H Q:=rfl
theorem zN (n:Nat)(x:X)(ps:List Nat)(a b:C):eF E (.cJ n x ps a b) R H Q=W E (.code (.cJ n x ps a b) R) H Q:=rfl
theorem cO (b:C):KY E Q b R H=eF E b R H Q:=rfl
theorem DU (a b:C):sZ E R H Q a b (.bool true)=eF E a R H Q:=rfl
theorem DV (a b:C):sZ E R H Q a b (.bool false)=eF E b R H Q:=rfl
theorem dH (R:ar)(H:af):ny K Q (.ex .normal R) H=K R H:=rfl
theorem DW (R:ar)(H:af):ny K Q (.ex .ret R) H=Q (.ex .ret R) H:=rfl
theorem DX (id:Nat)(R:ar)(H:af):ny K Q (.ex (.exit id) R) H=Q (.ex (.exit id) R) H:=rfl
theorem K5 (id:Nat)(R:ar)(H:af):jL id Q (.ex .normal R) H=Q (.ex .normal R) H:=rfl
theorem K6 (id:Nat)(R:ar)(H:af):jL id Q (.ex .ret R) H=Q (.ex .ret R) H:=rfl
theorem K7 (id i:Nat)(R:ar)(H:af):jL id Q (.ex (.exit i) R) H=if i=id then Q (.ex .normal R) H else Q (.ex (.exit i) R) H:=rfl
theorem DY (t:Nat):bL R (some (t,true))=U5 (R t):=by cases h:R t<;>simp[bL,U5,h]
theorem DZ (t:Nat):bL R (some (t,false))=U6 (R t):=by cases h:R t<;>simp[bL,U6,h]
theorem K8 (c:Bool):U5 (.bool c)=c:=rfl
theorem K9:U5 bX=false:=rfl
theorem La:U6 bX=false:=rfl
theorem Lb (c:Bool):U6 (.bool c)=!c:=rfl
end
theorem W.cG {E:Env}{α:Type}{a:C}{R:ar}{H:af}{Q:Out→af→Prop}(I:α→ar→af→Prop)(μ:α→Nat)(x:α)(h0:I x R H)
  (step:∀x R H,I x R H→eF E a R H (ny (fun R' H'=>∃y,μ y<μ x∧I y R' H') Q)):W E (.code (.loop a) R) H Q:=by
 have key:∀(n:Nat) (x:α) (R:ar) (H:af),μ x=n→I x R H→W E (.code (.loop a) R) H Q:=by
  intro n
  induction n using Nat.strongRecOn with
  | _ n ih =>
   intro x R H hn hI
   refine .loop _ (gX a R H _ (step x R H hI)) (fun R' H' hm=>?_) (fun o H' hm gD=>?_)
   ·obtain⟨y,hy,Wy⟩:=hm
    exact ih (μ y) (hn▸hy) y R' H' rfl Wy
   ·cases o with
    | ex e R'=>cases e with
     | normal=>exact absurd rfl (gD R')
     | exit id=>exact hm
     | ret=>exact hm
    | val v=>exact hm
 exact key _ x R H rfl h0
def yn (res:List Rs)(Q:Out→af→Prop):Out→af→Prop
 | .ex .normal R,H | .ex .ret R,H=>match pn R H res with
  | some v=>Q (.val v) H
  | none=>False
 | _,_=>False
theorem W.bR {E:Env}{f:Nat}{fn:Fn}{az:List T}{H:af}{Q:Out→af→Prop}(hf:E.fn f=some fn)(hr:fn.body.lT=false)(hn:az.length=fn.np)(h:eF E fn.body (gr az) H (yn fn.res Q)):W E (.call f az) H Q:=by
 refine .fn _ hf hr hn (gX _ _ _ _ h) fun o H' hm=>?_
 cases o with
 | ex e R =>
  cases e with
  | normal=>simp only[yn]at hm;split at hm;exact⟨R,.inl rfl,_,by assumption,hm⟩;exact hm.elim
  | exit id=>exact hm.elim
  | ret=>simp only[yn]at hm;split at hm;exact⟨R,.inr rfl,_,by assumption,hm⟩;exact hm.elim
 | val v=>exact hm.elim
def QW (n:Nat)(res:List Rs)(Q:Out→af→Prop):Out→af→Prop
 | .ex .normal R,H | .ex .ret R,H=>∃bs,marks (R n)=some bs∧bs.Nodup∧(∀b∈bs,H[b]?=some .zf)∧match pn R (kill H bs) res with
  | some v=>Q (.val v) (kill H bs)
  | none=>False
 | _,_=>False
theorem W.QX {E:Env}{f:Nat}{fn:Fn}{az:List T}{H:af}{Q:Out→af→Prop}(hf:E.fn f=some fn)(hn:az.length=fn.np)(h:eF E fn.body (gr az) H (QW fn.n fn.res Q)):W E (.call f az) H Q:=by
 refine .Ps _ hf hn (gX _ _ _ _ h) fun o H' hm=>?_
 cases o with
 | ex e R =>
  cases e with
  | normal=>obtain⟨bs,h1,h2,h3,h4⟩:=hm;split at h4;exact⟨R,bs,.inl rfl,h1,h2,h3,_,by assumption,h4⟩;exact h4.elim
  | exit id=>exact hm.elim
  | ret=>obtain⟨bs,h1,h2,h3,h4⟩:=hm;split at h4;exact⟨R,bs,.inr rfl,h1,h2,h3,_,by assumption,h4⟩;exact h4.elim
 | val v=>exact hm.elim
theorem W.D0 {E:Env}{n:Nat}{x:X}{ps:List Nat}{bZ body:C}{R:ar}{H:af}{Q:Out→af→Prop}{f:Nat}{cs:List T}(hx:x.ev R=.fn f cs)
  (h:W E (.call f (.mR (H.length+1) :: cs)) (H++[.zf,.loop .ready none n R ps bZ body]) (fun _ H'=>H'[H.length+1]?=some (.loop .ready none n R ps bZ body)∧Q (.ex .normal (nX R n (m4 (R n) H.length))) (H'.set (H.length+1) .dead))) :
  W E (.code (.cJ n x ps bZ body) R) H Q :=
 .cJ _ hx h fun _ _ hm=>⟨.ready,none,by simp,by simp,hm.1,hm.2⟩
theorem Ld {E:Env}{R:ar}{H:af}{K:ar→af→Prop}{l:List O}{d:Option Nat}{s:List Rd}{x:X}{az:List X}{b n:Nat}{R0:ar}{ps:List Nat}{bZ body:C}
  (hf:x.ev R=.mR b) (hb:H[b]?=some (.loop .ready none n R0 ps bZ body)) (hn:az.length=ps.length)
  (h:eF E bZ (iv R0 ps (az.map (X.ev R))) H (fun o H1=>∃R1,o=.ex .normal R1∧H1[b]?=some (.loop .ready none n R0 ps bZ body) ∧
   eF E body R1 (H1.set b (.loop .busy none n R0 ps bZ body)) (fun o H2=>∃R2,o=.ex .normal R2∧H2[b]?=some (.loop .busy none n R0 ps bZ body) ∧
    uw R (H2.set b (.loop .ready none n R0 ps bZ body)) s∧fv E l (bu R d (.bool true)) (H2.set b (.loop .ready none n R0 ps bZ body)) K))) :
  fv E (⟨d,.bA x az,none,s⟩ :: l) R H K:=by
 refine .inr ⟨b,n,R0,ps,bZ,body,_,fun o H2=>∃R2,o=.ex .normal R2∧H2[b]?=some (.loop .busy none n R0 ps bZ body)∧uw R (H2.set b (.loop .ready none n R0 ps bZ body)) s∧fv E l (bu R d (.bool true)) (H2.set b (.loop .ready none n R0 ps bZ body)) K,hf,hb,hn,gX _ _ _ _ h,?_,?_,?_,?_,?_⟩
 ·rintro o H'⟨R1,rfl,h1,_⟩;exact⟨⟨R1,rfl⟩,h1⟩
 ·rintro R1 H1⟨_,h0,h1,h2⟩;cases h0;exact gX _ _ _ _ h2
 ·rintro o H'⟨_,_,h,_⟩;exact h
 ·rintro R' H'⟨_,h0,_,h⟩;exact h
 ·rintro e R' H'⟨_,h0,_⟩ bG;cases h0;exact absurd rfl bG
theorem W.use {E:Env}{j:J}{H:af}{Q Q':Out→af→Prop}(h:W E j H Q)(hq:∀o H',Q o H'→Q' o H'):W E j H Q':=by
 induction h generalizing Q' with
 | skip h=>exact .skip (hq _ _ h)
 | exit h=>exact .exit (hq _ _ h)
 | ret h=>exact .ret (hq _ _ h)
 | Pr _ ih=>exact .Pr (ih hq)
 | seq M h1 h2 h3 _ mX=>exact .seq M h1 (fun R' H' hm=>mX R' H' hm hq) (fun o H' hm hn=>hq _ _ (h3 o H' hm hn))
 | cond t hx _ ih=>exact .cond t hx (ih hq)
 | block M h1 h2 h3 _=>exact .block M h1 (fun R' H' hm=>hq _ _ (h2 R' H' hm)) (fun o H' hm hn=>hq _ _ (h3 o H' hm hn))
 | loop M h1 h2 h3 _ mX=>exact .loop M h1 (fun R' H' hm=>mX R' H' hm hq) (fun o H' hm hn=>hq _ _ (h3 o H' hm hn))
 | nil h=>exact .nil (hq _ _ h)
 | no hg _ ih=>exact .no hg (ih hq)
 | op hg he hs _ ih=>exact .op hg he hs (ih hq)
 | call M hg h1 hs _ _ mX=>exact .call M hg h1 hs (fun v H' hm=>mX v H' hm hq)
 | bA M hg hf h1 hs _ _ mX=>exact .bA M hg hf h1 hs (fun v H' hm=>mX v H' hm hq)
 | mR M1 M hg hf hb hn h1 AU h2 AV zi _ Ck _ _ _ PI PJ=>exact .mR M1 M hg hf hb hn h1 AU h2 AV zi (fun R' H' hm=>PI R' H' hm hq) Ck (fun e R' H' hm he=>PJ e R' H' hm he hq)
 | AS hs h hx hy hc ih=>exact .AS hs (fun b=>ih b hq) hx hy hc
 | cJ M hx h1 h2 _=>exact .cJ M hx h1 (fun v H' hm=>let ⟨st,pe,a,b,c,d⟩:=h2 v H' hm;⟨st,pe,a,b,c,hq _ _ d⟩)
 | Ps M hf hn h1 h2 _=>exact .Ps M hf hn h1 (fun o H' hm=>let ⟨R',bs,a,b,c,d,v,e,f⟩:=h2 o H' hm;⟨R',bs,a,b,c,d,v,e,hq _ _ f⟩)
 | fn M hf hr hn h1 h2 _=>exact .fn M hf hr hn h1 (fun o H' hm=>let ⟨R',a,v,b,c⟩:=h2 o H' hm;⟨R',a,v,b,hq _ _ c⟩)
 | AW i M hi h1 h2 _=>exact .AW i M hi h1 (fun v H' hm=>hq _ _ (h2 v H' hm))
 | pE M h1 h2 _=>exact .pE M h1 (fun o H' hm=>let ⟨v,b,cs,a,c,d,e⟩:=h2 o H' hm;⟨v,b,cs,a,c,d,hq _ _ e⟩)
 | pD hg hx hb hs _ ih=>exact .pD hg hx hb hs fun t H' hm=>ih t H' hm hq
 | shr M h1 h2 _=>exact .shr M h1 (fun o H' hm=>let ⟨v,b,cs,k,a,c,d,e⟩:=h2 o H' hm;⟨v,b,cs,k,a,c,d,hq _ _ e⟩)
 | CN i hi hb _ ih=>exact .CN i hi hb (ih hq)
 | ob h=>exact .ob (E.mono _ _ _ _ _ h fun t H' hm=>hq _ _ hm)
theorem cL {E:Env}{K K':ar→af→Prop}(hk:∀R H,K R H→K' R H):∀(l:List O) (R:ar) (H:af),fv E l R H K→fv E l R H K'
 | [],R,H,h=>hk _ _ h
 | ⟨d,.b b,g,s⟩ :: l,R,H,h=>by
  simp only[fv]at h ⊢
  split at h
  ·exact cL hk l _ _ h
  ·split at h
   ·exact⟨h.1,cL hk l _ _ h.2⟩
   ·rcases h with h|⟨x,bb,bi,es,ix,cur,e,hx,hb,h⟩
    ·exact .inl ⟨h.1,fun t=>cL hk l _ _ (h.2 t)⟩
    ·exact .inr ⟨x,bb,bi,es,ix,cur,e,hx,hb,fun t H' hm=>⟨(h t H' hm).1,cL hk l _ _ (h t H' hm).2⟩⟩
 | ⟨d,.call f az,g,s⟩ :: l,R,H,h=>by
  simp only[fv]at h ⊢
  split at h
  ·exact cL hk l _ _ h
  ·obtain⟨M,h1,h2⟩:=h
   exact⟨M,h1,fun v H' hm=>⟨(h2 v H' hm).1,cL hk l _ _ (h2 v H' hm).2⟩⟩
 | ⟨d,.bA x az,g,s⟩ :: l,R,H,h=>by
  simp only[fv]at h ⊢
  split at h
  ·exact cL hk l _ _ h
  ·rcases h with⟨f,cs,M,hf,h1,h2⟩|⟨b,n,R0,ps,bZ,body,M1,M,h⟩
   ·exact .inl ⟨f,cs,M,hf,h1,fun v H' hm=>⟨(h2 v H' hm).1,cL hk l _ _ (h2 v H' hm).2⟩⟩
   ·exact .inr ⟨b,n,R0,ps,bZ,body,M1,M,⟨h.hf,h.hb,h.hn,h.h1,h.AU,h.h2,h.AV,fun R' H' hm=>⟨(h.h3 R' H' hm).1,cL hk l _ _ (h.h3 R' H' hm).2⟩,fun e R' H' hm he=>⟨(h.h4 e R' H' hm he).1,cL hk l _ _ (h.h4 e R' H' hm he).2⟩⟩⟩
theorem cM {E:Env}:∀(c:C) (R:ar) (H:af) {Q Q':Out→af→Prop},(∀o H,Q o H→Q' o H)→eF E c R H Q→eF E c R H Q'
 | .skip,R,H,Q,Q',hq,h=>hq _ _ h
 | .ops l,R,H,Q,Q',hq,h=>cL (fun R H h=>hq _ _ h) l R H h
 | .seq a b,R,H,Q,Q',hq,h=>cM a R H (fun o H' h=>by
  cases o with
  | ex e R'=>cases e with
   | normal=>exact cM b R' H' hq h
   | exit id=>exact hq _ _ h
   | ret=>exact hq _ _ h
  | val v=>exact hq _ _ h) h
 | .cond x a b,R,H,Q,Q',hq,h=>by
  simp only[eF]at h ⊢
  split at h
  ·exact cM a R H hq h
  ·exact cM b R H hq h
  ·exact h.elim
 | .block id a,R,H,Q,Q',hq,h=>cM a R H (fun o H' h=>by
  cases o with
  | ex e R'=>cases e with
   | normal=>exact hq _ _ h
   | exit i=>simp only[jL]at h ⊢;split at h<;>(rename_i e;simp only[e,if_true,if_false];exact hq _ _ h)
   | ret=>exact hq _ _ h
  | val v=>exact hq _ _ h) h
 | .exit id,R,H,Q,Q',hq,h=>hq _ _ h
 | .ret,R,H,Q,Q',hq,h=>hq _ _ h
 | .loop a,R,H,Q,Q',hq,h=>W.use h hq
 | .cJ n x ps a b,R,H,Q,Q',hq,h=>W.use h hq
def mY (v:T)(H:af):Out→af→Prop:=fun o H'=>o=.val v∧H'=H
theorem zO (v v':T)(H H':af):mY v H (.val v') H'=(v'=v∧H'=H):=by simp[mY]
theorem zP (a b:T)(l:List T):gr (a :: b :: l) 1=b:=rfl
theorem zQ (a b c:T)(l:List T):gr (a :: b :: c :: l) 2=c:=rfl
theorem zR (a b c d:T)(l:List T):gr (a :: b :: c :: d :: l) 3=d:=rfl
theorem zS (a b c d e:T)(l:List T):gr (a :: b :: c :: d :: e :: l) 4=e:=rfl
def D1 (v:T)(H:af):Out→af→Prop:=fun o H'=>o=.val v∧∃l,H'=H++l
theorem wC (v v':T)(H l:af):D1 v H (.val v') (H++l)=(v'=v):=by simp[D1]
theorem s7 (v v':T)(H:af):D1 v H (.val v') H=(v'=v):=by
 simp only[D1,Out.val.injEq,eq_iff_iff]
 exact⟨fun h=>h.1,fun h=>⟨h,[],by simp⟩⟩
theorem aa (k:IntKind)(n:Nat):cq (.int k (n:Int))=some n:=by simp[cq]
theorem wrap64 {n:Int}(h:-9223372036854775808≤n∧n<9223372036854775808):IntKind.i64.wrap n=n:=by
 unfold IntKind.wrap
 simp only[IntKind.signed,IntKind.bits]
 simp
 omega
theorem ux {n:Int}(h:0≤n∧n<18446744073709551616):IntKind.u64.wrap n=n:=by
 unfold IntKind.wrap
 simp only[IntKind.signed,IntKind.bits]
 simp
 omega
theorem aC {i:Nat}(h:i<9223372036854775807):IntKind.i64.wrap ((i:Int)+1)=((i+1:Nat):Int):=by rw[wrap64 (by omega)];simp
theorem lD {i:Nat}(h:i<9223372036854775807)(h1:1≤i):IntKind.i64.wrap ((i:Int)-1)=((i-1:Nat):Int):=by rw[wrap64 (by omega)];omega
theorem QY (v:T):valOf false [v]=some v:=rfl
theorem QZ (cs:List T):valOf true cs=some (.agg cs):=rfl
theorem U8 (a b:Nat):decide ((a:Int)<(b:Int))=decide (a<b):=by simp
theorem U9 (a b:Nat):decide ((a:Int)≤(b:Int))=decide (a≤b):=by simp
theorem Q0 (a b:Nat):((a:Int)==(b:Int))=decide (a=b):=by rw[Bool.eq_iff_iff];simp;omega
theorem Wz (a b:Nat):((a:Int) != (b:Int))=!decide (a=b):=by rw[Bool.eq_iff_iff];simp;omega
theorem D2:∀(a:List UInt8),Op.bytesLess a a=false
 | []=>rfl
 | x :: a=>by simp[Op.bytesLess,D2 a]
theorem wD:∀(a b c:List UInt8),Op.bytesLess a b=true→Op.bytesLess b c=true→Op.bytesLess a c=true
 | _,[],_,h,_=>by cases ‹List UInt8›<;>simp[Op.bytesLess]at h
 | _,_ :: _,[],_,h=>by simp[Op.bytesLess]at h
 | [],_ :: _,_ :: _,_,_=>rfl
 | x :: a,y :: b,z :: c,h1,h2=>by
  simp only[Op.bytesLess,Bool.or_eq_true,decide_eq_true_eq,Bool.and_eq_true,beq_iff_eq]at h1 h2 ⊢
  rcases h1 with h1|⟨rfl,h1⟩
  ·rcases h2 with h2|⟨rfl,h2⟩
   ·exact .inl (UInt8.lt_trans h1 h2)
   ·exact .inl h1
  ·rcases h2 with h2|⟨rfl,h2⟩
   ·exact .inl h2
   ·exact .inr ⟨rfl,wD a b c h1 h2⟩
theorem D3:∀(a b:List UInt8),Op.bytesLess a b=false→Op.bytesLess b a=false→a=b
 | [],[],_,_=>rfl
 | [],_ :: _,h,_=>by simp[Op.bytesLess]at h
 | _ :: _,[],_,h=>by simp[Op.bytesLess]at h
 | x :: a,y :: b,h1,h2=>by
  simp only[Op.bytesLess,Bool.or_eq_false_iff,decide_eq_false_iff_not,Bool.and_eq_false_iff,beq_eq_false_iff_ne]at h1 h2
  have e:x=y:=by
   have a1:=h1.1;have a2:=h2.1
   exact UInt8.le_antisymm (UInt8.not_lt.1 a2) (UInt8.not_lt.1 a1)
  subst e
  rw[D3 a b (h1.2.resolve_left (fun h=>h rfl)) (h2.2.resolve_left (fun h=>h rfl))]
theorem toList_inj {a b:ByteArray}(h:a.toList=b.toList):a=b:=by
 have e:∀c:ByteArray,c.toList=c.data.toList:=fun c=>Go.ByteArray.toList_eq c
 rw[e,e]at h
 cases a;cases b
 simp only[ByteArray.mk.injEq]
 exact Array.toList_inj.1 h
theorem fw (a b:ByteArray):jc a b=decide (a=b):=by
 unfold jc
 rw[Bool.eq_iff_iff]
 simp only[beq_iff_eq,decide_eq_true_eq]
 exact⟨toList_inj,fun h=>by rw[h]⟩
theorem fc (a:ByteArray):strLt a a=false:=D2 _
theorem et {a b c:ByteArray}(h1:strLt a b=true)(h2:strLt b c=true):strLt a c=true:=wD _ _ _ h1 h2
theorem qJ {a b:ByteArray}(h1:strLt a b=false)(h2:strLt b a=false):a=b:=toList_inj (D3 _ _ h1 h2)
theorem lt_asymm {a b:ByteArray}(h:strLt a b=true):strLt b a=false:=by
 cases e:strLt b a with
 | false=>rfl
 | true=>have:=et h e;rw[fc]at this;cases this
theorem not_le (a b:ByteArray):(!(strLt b a||jc b a))=strLt a b:=by
 cases h:strLt a b with
 | true =>
  have h1:=lt_asymm h
  have h2:jc b a=false:=by rw[fw];simp;rintro rfl;rw[fc]at h;cases h
  simp[h1,h2]
 | false =>
  cases h1:strLt b a with
  | true=>simp
  | false=>have:=qJ h h1;subst this;simp[fw]
def At (H:af)(P:af→Prop):Prop:=P H
theorem At.i {H:af}{P:af→Prop}(h:P H):At H P:=h
def Ext (H H':af):Prop:=∃m,H'=H++m
theorem Ext.rfl' {H:af}:Ext H H:=⟨[],by simp⟩
theorem Ext.trans {H H' vE:af}(h:Ext H H')(h':Ext H' vE):Ext H vE:=by
 obtain⟨a,rfl⟩:=h;obtain⟨b,rfl⟩:=h';exact⟨a++b,by simp⟩
theorem Ext.app {H H':af}(h:Ext H H')(l:af):Ext H (H'++l):=h.trans ⟨l,rfl⟩
theorem Ext.set {H H':af}(h:Ext H H'){b:Nat}(hb:H.length≤b)(x:B):Ext H (H'.set b x):=by
 obtain⟨m,rfl⟩:=h
 exact⟨m.set (b-H.length) x,by rw[List.set_append_right _ _ hb]⟩
theorem Ext.get {H H':af}(h:Ext H H'){b:Nat}{x:B}(hx:H[b]?=some x):H'[b]?=some x:=by
 obtain⟨m,rfl⟩:=h
 have:=(List.getElem?_eq_some_iff.1 hx).1
 rw[List.getElem?_append_left this];exact hx
theorem Ext.len {H H':af}(h:Ext H H'):H.length≤H'.length:=by obtain⟨m,rfl⟩:=h;simp
theorem aW {H:af}{b:Nat}{x:B}(hx:H[b]?=some x):b<H.length:=(List.getElem?_eq_some_iff.1 hx).1
theorem aU {H l:af}{x:B}{b:Nat}(h:b=H.length):(H++x :: l)[b]?=some x:=by subst h;simp
theorem aV {H l:af}{b:Nat}(h:b<H.length):(H++l)[b]?=H[b]?:=by rw[List.getElem?_append_left h]
theorem bU {H:af}{x:B}{b:Nat}(h:b<H.length):(H.set b x)[b]?=some x:=by simp[h]
theorem bf {H:af}{x:B}{b c:Nat}(h:b≠c):(H.set b x)[c]?=H[c]?:=by simp[h]
theorem uy {H l:af}{x y:B}{b:Nat}(h:b=H.length):(H++x :: l).set b y=H++y :: l:=by subst h;simp
theorem Lf {H l:af}{x:B}{b:Nat}(h:b<H.length):(H++l).set b x=H.set b x++l:=by rw[List.set_append_left _ _ h]
theorem Lg {H l:af}{b:Nat}(h:b<H.length):(b<(H++l).length)=True:=by simp;omega
theorem Lh {H:af}{x:B}{b c:Nat}:(b<(H.set c x).length)=(b<H.length):=by simp
theorem Li {H:af}{x:B}{b c:Nat}:(b=(H.set c x).length)=(b=H.length):=by simp
def sd (n off:Nat):Option B→Option (List T)
 | some (.cells cs)=>if off+n≤cs.length then some ((cs.drop off).take n)else none
 | _=>none
theorem zT (H:af)(n b off:Nat):nZ H n (.ptr b off)=sd n off H[b]?:=by
 simp only[nZ,sd];rfl
theorem cV (H:af)(n:Nat)(cs:List T):nZ H n (.cP cs)=if n≤cs.length then some (cs.take n)else none:=rfl
theorem mH (n off:Nat)(cs:List T):sd n off (some (.cells cs))=if off+n≤cs.length then some ((cs.drop off).take n)else none:=rfl
def pr (H:af)(b:Nat)(vs:List T)(off:Nat):Option B→Option af
 | some (.cells cs)=>if off+vs.length≤cs.length then some (H.set b (.cells (cs.take off++vs++cs.drop (off+vs.length))))else none
 | _=>none
theorem zU (H:af)(vs:List T)(b off:Nat):P6 H vs (.ptr b off)=pr H b vs off H[b]?:=by
 simp only[P6,pr];rfl
theorem gY (H:af)(b:Nat)(vs:List T)(off:Nat)(cs:List T):pr H b vs off (some (.cells cs))=if off+vs.length≤cs.length then some (H.set b (.cells (cs.take off++vs++cs.drop (off+vs.length))))else none:=rfl
theorem oJ (H l:af)(x y:B):(H++x :: l).set H.length y=H++y :: l:=uy rfl
theorem zV (off b o:Nat):vC off (.ptr b o)=some (.ptr b (o+off)):=rfl
def dq (id:Nat)(P:ar→af→Prop)(Q:Out→af→Prop):Out→af→Prop
 | .ex (.exit i) R,H=>if i=id then P R H else Q (.ex (.exit i) R) H
 | o,H=>Q o H
theorem Q1 (id:Nat)(P:ar→af→Prop)(Q:Out→af→Prop)(R:ar)(H:af):dq id P Q (.ex .normal R) H=Q (.ex .normal R) H:=rfl
theorem Q2 (id:Nat)(P:ar→af→Prop)(Q:Out→af→Prop)(R:ar)(H:af):dq id P Q (.ex .ret R) H=Q (.ex .ret R) H:=rfl
theorem Q3 (id i:Nat)(P:ar→af→Prop)(Q:Out→af→Prop)(R:ar)(H:af):dq id P Q (.ex (.exit i) R) H=if i=id then P R H else Q (.ex (.exit i) R) H:=rfl
theorem W.cN {E:Env}{α:Type}{a:C}{R:ar}{H:af}{Q:Out→af→Prop}(id:Nat)(I:α→ar→af→Prop)(μ:α→Nat)(x:α)(P:ar→af→Prop)(h0:I x R H)
  (step:∀x R H,I x R H→eF E a R H (ny (fun R' H'=>∃y,μ y<μ x∧I y R' H') (dq id P Q))) (rest:∀R H,P R H→Q (.ex (.exit id) R) H):W E (.code (.loop a) R) H Q :=
 W.use (W.cG I μ x h0 step) fun o H' h=>by
  cases o with
  | ex e R'=>cases e with
   | exit i=>simp only[dq]at h;split at h;rename_i e;subst e;exact rest _ _ h;exact h
   | normal=>exact h
   | ret=>exact h
  | val v=>exact h
def ah {α β:Type}[DecidableEq α](es:List (α×β))(k:α):Option β:=(es.find? fun e=>decide (k=e.1)).map (·.2)
def ct {α β:Type}[DecidableEq α](es:List (α×β))(k:α)(v:β):List (α×β) :=
 match es.findIdx? fun e=>decide (k=e.1)with
 | some i=>es.set i (k,v)
 | none=>es++[(k,v)]
def lX {α β:Type}[DecidableEq α](es:List (α×β))(k:α):List (α×β) :=
 match es.findIdx? fun e=>decide (k=e.1)with
 | some i=>es.eraseIdx i
 | none=>es
section
variable {α β:Type} [DecidableEq α]
theorem dC (k:α):ah ([]:List (α×β)) k=none:=rfl
theorem bJ (e:α×β)(es:List (α×β))(k:α):ah (e :: es) k=if k=e.1 then some e.2 else ah es k:=by
 unfold ah;rw[List.find?_cons];by_cases h:k=e.1<;>simp[h]
theorem D4 (k:α)(v:β):ct [] k v=[(k,v)]:=rfl
theorem oK (e:α×β)(es:List (α×β))(k:α)(v:β):ct (e :: es) k v=if k=e.1 then(k,v) :: es else e :: ct es k v:=by
 unfold ct;rw[List.findIdx?_cons]
 by_cases h:k=e.1
 ·simp[h]
 ·simp only[h,decide_false,if_false,Bool.false_eq_true]
  cases List.findIdx? (fun e=>decide (k=e.1)) es<;>simp
theorem bm (es:List (α×β))(k k':α)(v:β):ah (ct es k v) k'=if k'=k then some v else ah es k':=by
 induction es with
 | nil=>rw[D4,bJ]
 | cons e es ih =>
  rw[oK]
  by_cases h:k=e.1
  ·simp only[h,if_true,bJ];by_cases h':k'=e.1<;>simp[h']
  ·simp only[h,if_false,bJ,ih]
   by_cases h':k'=e.1
   ·subst h';simp[Ne.symm h]
   ·simp[h']
theorem s9 (es:List (α×β))(k:α):ah es k=match es.findIdx? fun e=>decide (k=e.1)with
  | some i=>(es[i]?).map (·.2)
  | none=>none:=by
 induction es with
 | nil=>rfl
 | cons e es ih =>
  rw[bJ,List.findIdx?_cons]
  by_cases h:k=e.1
  ·simp[h]
  ·simp only[h,if_false,decide_false,Bool.false_eq_true,ih]
   cases List.findIdx? (fun e=>decide (k=e.1)) es<;>simp
theorem D5 {es:List (α×β)}{k:α}{i:Nat}(h:(es.findIdx? fun e=>decide (k=e.1))=some i):∃v,es[i]?=some (k,v):=by
 rw[List.findIdx?_eq_some_iff_getElem]at h
 obtain⟨hi,h,-⟩:=h
 refine⟨es[i].2,?_⟩
 rw[List.getElem?_eq_getElem hi]
 simp only[decide_eq_true_eq]at h
 rw[h]
end
def ba {α:Type}(ek:α→T)(es:List (α×T)):List (T×T):=es.map fun e=>(ek e.1,e.2)
structure qK {α:Type}[DecidableEq α](kt:KT)(ek:α→T):Prop where
 has:∀a,(ek a).iP kt=true
 eq:∀a b,gL (ek a) (ek b)=some (decide (a=b))
section
variable {α:Type} [DecidableEq α] {kt:KT} {ek:α→T}
theorem uz (ho:qK kt ek)(k:α):∀es:List (α×T),da (ek k) (ba ek es)=some (es.findIdx? fun e=>decide (k=e.1))
 | []=>rfl
 | e :: es=>by
  have ih:=uz ho k es
  simp only[ba]at ih ⊢
  simp only[List.map_cons,da,ho.eq,List.findIdx?_cons]
  cases h:decide (k=e.1)
  ·simp[ih]
  ·simp
def iT (o:Option T)(z:T)(ok:Bool):T:=match o with
 | some v=>if ok then .bF [v,.bool true]else v
 | none=>if ok then .bF [z,.bool false]else z
def yo (kt:KT)(z:T)(ok:Bool)(H:af)(mb:Option B)(k:T):Option (T×af):=match mb with
 | some (.map es)=>if k.iP kt then match da k es with
  | some (some i)=>match es[i]? with
   | some e=>some (if ok then .bF [e.2,.bool true]else e.2,H)
   | none=>none
  | some none=>some (if ok then .bF [z,.bool false]else z,H)
  | none=>none else none
 | some (.cQ es _ _ _)=>if k.iP kt then match da k es with
  | some (some i)=>match es[i]? with
   | some e=>some (if ok then .bF [e.2,.bool true]else e.2,H)
   | none=>none
  | some none=>some (if ok then .bF [z,.bool false]else z,H)
  | none=>none else none
 | _=>none
def MT (kt:KT)(z:T)(ok:Bool)(H:af)(m k:T):Option (T×af):=match m with
 | .map b=>yo kt z ok H H[b]? k
 | .gk=>if k.iP kt then some (if ok then .bF [z,.bool false]else z,H)else none
 | _=>none
theorem D6 (R:ar)(H:af)(kt:KT)(z:T)(ok:Bool)(m k:X):al R H (.mT kt z ok m k)=MT kt z ok H (m.ev R) (k.ev R):=by
 unfold MT yo
 simp only[al]
 cases h1:(k.ev R).iP kt
 ·simp only[Bool.false_eq_true,if_false]
  cases m.ev R with
  | map b=>simp only;split<;>rfl
  | _=>rfl
 ·simp only[if_true]
  cases m.ev R with
  | map b =>
   simp only[gq]
   cases H[b]? with
   | none=>rfl
   | some x=>cases x<;>rfl
  | gk=>simp only[gq,da]
  | _=>rfl
theorem wE (kt:KT)(z:T)(ok:Bool)(H:af)(b:Nat)(k:T):MT kt z ok H (.map b) k=yo kt z ok H H[b]? k:=rfl
theorem kW (ho:qK kt ek)(z:T)(ok:Bool)(H:af)(es:List (α×T))(s:α):yo kt z ok H (some (.map (ba ek es))) (ek s)=some (iT (ah es s) z ok,H):=by
 simp only[yo,ho.has,uz ho,if_true,s9]
 cases h:List.findIdx? (fun e=>decide (s=e.1)) es with
 | none=>cases ok<;>rfl
 | some i =>
  obtain⟨v,hv⟩:=D5 h
  have:(ba ek es)[i]?=some (ek s,v):=by simp[ba,hv]
  simp only[this,hv,iT,Option.map_some]
def wF (kt:KT)(H:af)(b:Nat)(mb:Option B)(k v:T):Option (T×af):=match mb with
 | some (.map es)=>if k.iP kt then match da k es with
  | some (some i)=>some (bX,H.set b (.map (es.set i (k,v))))
  | some none=>some (bX,H.set b (.map (es++[(k,v)])))
  | none=>none else none
 | _=>none
def MU (kt:KT)(H:af)(m k v:T):Option (T×af):=match m with
 | .map b=>wF kt H b H[b]? k v
 | _=>none
theorem D7 (R:ar)(H:af)(kt:KT)(m k v:X):al R H (.ze kt m k v)=MU kt H (m.ev R) (k.ev R) (v.ev R):=by
 unfold MU wF
 simp only[al]
 cases m.ev R with
 | map b =>
  simp only
  cases h1:(k.ev R).iP kt
  ·simp only[Bool.false_eq_true,if_false];split<;>rfl
  ·simp only[if_true]
   cases H[b]? with
   | none=>rfl
   | some x=>cases x<;>rfl
 | _=>rfl
theorem wG {β γ:Type}(f:β→γ):∀(l:List β) (j:Nat),(l.map f).eraseIdx j=(l.eraseIdx j).map f
 | [],_=>by simp
 | _ :: _,0=>by simp
 | _ :: l,j+1=>by simp[wG f l j]
def D8 (kt:KT)(H:af)(b:Nat)(mb:Option B)(k:T):Option (T×af):=match mb with
 | some (.map es)=>if k.iP kt then match da k es with
  | some (some i)=>some (.bF [],H.set b (.map (es.eraseIdx i)))
  | some none=>some (.bF [],H)
  | none=>none else none
 | _=>none
def MV (kt:KT)(H:af)(m k:T):Option (T×af):=match m with
 | .map b=>D8 kt H b H[b]? k
 | _=>none
theorem D9 (R:ar)(H:af)(kt:KT)(m k:X):al R H (.del kt m k)=MV kt H (m.ev R) (k.ev R):=by
 unfold MV D8
 simp only[al]
 cases m.ev R with
 | map b =>
  simp only
  cases h1:(k.ev R).iP kt
  ·simp only[Bool.false_eq_true,if_false];split<;>rfl
  ·simp only[if_true]
   cases H[b]? with
   | none=>rfl
   | some x=>cases x<;>rfl
 | _=>rfl
theorem wH (kt:KT)(H:af)(b:Nat)(k:T):MV kt H (.map b) k=D8 kt H b H[b]? k:=rfl
def pt (es:List (α×T))(s:α):List (α×T):=match es.findIdx? (fun e=>decide (s=e.1))with
 | some i=>es.eraseIdx i
 | none=>es
theorem Ea (ho:qK kt ek)(H:af)(b:Nat)(es:List (α×T))(s:α){v:T}(hv:ah es s=some v):D8 kt H b (some (.map (ba ek es))) (ek s)=some (.bF [],H.set b (.map (ba ek (pt es s)))):=by
 rw[s9]at hv
 simp only[D8,ho.has,uz ho,if_true,pt]
 cases h:List.findIdx? (fun e=>decide (s=e.1)) es with
 | none=>rw[h]at hv;simp at hv
 | some i=>simp only[ba,Option.some.injEq,Prod.mk.injEq,true_and];congr 2;rw[wG]
def MW (H:af)(b:Nat):Option B→Option (T×af)
 | some (.map es)=>some (.ptr H.length 0,H.set b (.cQ es (List.range es.length) H.length none)++[.tR b])
 | some (.cQ es _ _ _)=>some (.ptr H.length 0,H.set b (.cQ es (List.range es.length) H.length none)++[.tR b])
 | _=>none
def MX (H:af):T→Option (T×af)
 | .map b=>MW H b H[b]?
 | _=>none
theorem Eb (R:ar)(H:af)(x:X):al R H (.L1 x)=MX H (x.ev R):=by
 simp only[al]
 cases x.ev R with
 | map b =>
  simp only[gq,MX]
  cases H[b]? with
  | none=>rfl
  | some y=>cases y<;>rfl
 | _=>rfl
theorem wI (H:af)(b:Nat):MX H (.map b)=MW H b H[b]?:=rfl
theorem Ec (H:af)(b:Nat)(es:List (T×T)):MW H b (some (.map es))=some (.ptr H.length 0,H.set b (.cQ es (List.range es.length) H.length none)++[.tR b]):=rfl
theorem Ed (R:ar)(H:af)(x:X):al R H (.pD x)=none:=rfl
def Jd (H:af)(bi:Nat):Option B→Option (T×af)
 | some (.cQ es _ P7 (some c))=>if P7=bi then(es[c]?).map fun e=>(.bF [e.1,e.2],H)else none
 | _=>none
def Je (H:af)(bi:Nat):Option B→Option (T×af)
 | some (.tR b)=>Jd H bi H[b]?
 | _=>none
def MY (H:af):T→Option (T×af)
 | .ptr bi 0=>Je H bi H[bi]?
 | _=>none
theorem Ee (R:ar)(H:af)(x:X):al R H (.L3 x)=MY H (x.ev R):=by
 simp only[al]
 cases x.ev R with
 | ptr bi o =>
  cases o with
  | zero =>
   simp only[MY]
   cases H[bi]? with
   | none=>rfl
   | some y=>cases y with
    | tR b =>
     simp only[Je]
     cases H[b]? with
     | none=>rfl
     | some z=>cases z with
      | cQ es ix P7 cur=>cases cur<;>rfl
      | _=>rfl
    | _=>rfl
  | succ _=>rfl
 | _=>rfl
theorem wJ (H:af)(bi:Nat):MY H (.ptr bi 0)=Je H bi H[bi]?:=rfl
theorem Ef (H:af)(bi b:Nat):Je H bi (some (.tR b))=Jd H bi H[b]?:=rfl
theorem Eg (H:af)(bi:Nat)(es:List (T×T))(ix:List Nat)(c:Nat):Jd H bi (some (.cQ es ix bi (some c)))=(es[c]?).map fun e=>(.bF [e.1,e.2],H):=by simp only[Jd,if_true]
def Jf (H:af)(b off len n n':Nat)(z:List T):Option B→Option (T×af)
 | some (.cells cs)=>if n'=n∧z.length=n∧off+len*n≤cs.length then some (bX,H.set b (.cells (cs.take off++(List.replicate len z).flatten++cs.drop (off+len*n))))else none
 | _=>none
def MZ (H:af)(n:Nat)(z:List T):T→Option (T×af)
 | .ax b off len n'=>Jf H b off len n n' z H[b]?
 | _=>none
theorem Eh (R:ar)(H:af)(n:Nat)(z:List T)(x:X):al R H (.Pp n z x)=MZ H n z (x.ev R):=by
 simp only[al]
 cases x.ev R with
 | ax b off len n' =>
  simp only[MZ]
  cases H[b]? with
  | none=>rfl
  | some y=>cases y<;>rfl
 | _=>rfl
theorem nz (H:af)(n:Nat)(z:List T)(b off len n':Nat):MZ H n z (.ax b off len n')=Jf H b off len n n' z H[b]?:=rfl
theorem wO (kt:KT)(H:af)(b:Nat)(k v:T):MU kt H (.map b) k v=wF kt H b H[b]? k v:=rfl
theorem uA (ho:qK kt ek)(H:af)(b:Nat)(es:List (α×T))(s:α)(v:T):wF kt H b (some (.map (ba ek es))) (ek s) v=some (bX,H.set b (.map (ba ek (ct es s v)))):=by
 simp only[wF,ho.has,uz ho,if_true,ct]
 cases h:List.findIdx? (fun e=>decide (s=e.1)) es with
 | none=>simp[ba]
 | some i=>simp[ba]
end
theorem Q4:qK (.sc .str) T.str:=⟨fun _=>rfl,fun a b=>by simp only[gL,ik,fw]⟩
def kU (n:Nat):T:=.int .u64 n
theorem M0:qK (.sc .int) kU:=⟨fun _=>rfl,fun a b=>by simp only[kU,gL,ik,if_true,Q0]⟩
theorem fe (z:T)(ok:Bool)(H:af)(es:List (ByteArray×T))(s:ByteArray):yo (.sc .str) z ok H (some (.map (ba T.str es))) (.str s)=some (iT (ah es s) z ok,H):=kW Q4 z ok H es s
theorem kX (z:T)(ok:Bool)(H:af)(es:List (Nat×T))(s:Nat):yo (.sc .int) z ok H (some (.map (ba kU es))) (.int .u64 s)=some (iT (ah es s) z ok,H):=kW M0 z ok H es s
theorem mI (H:af)(b:Nat)(es:List (ByteArray×T))(s:ByteArray)(v:T):wF (.sc .str) H b (some (.map (ba T.str es))) (.str s) v=some (bX,H.set b (.map (ba T.str (ct es s v)))):=uA Q4 H b es s v
theorem qL (H:af)(b:Nat)(es:List (Nat×T))(s:Nat)(v:T):wF (.sc .int) H b (some (.map (ba kU es))) (.int .u64 s) v=some (bX,H.set b (.map (ba kU (ct es s v)))):=uA M0 H b es s v
theorem wP (v z:T):iT (some v) z false=v:=rfl
theorem wQ (z:T):iT none z false=z:=rfl
theorem ta (v z:T):iT (some v) z true=.bF [v,.bool true]:=rfl
theorem td (z:T):iT none z true=.bF [z,.bool false]:=rfl
theorem te (l:List T):(T.agg l).cells?=some l:=rfl
theorem tf (k:IntKind)(n:Int):(T.int k n).cells?=some [.int k n]:=rfl
theorem tg (s:ByteArray):(T.str s).cells?=some [.str s]:=rfl
theorem qM (s:Bool):(T.bool s).cells?=some [.bool s]:=rfl
theorem wR (k:SK)(l:List (List T)):(T.sl k l).cells?=some [.sl k l]:=rfl
theorem th (a b c d:Nat):(T.ax a b c d).cells?=some [.ax a b c d]:=rfl
theorem ti (b:Nat):(T.map b).cells?=some [.map b]:=rfl
theorem tj (a b:Nat):(T.ptr a b).cells?=some [.ptr a b]:=rfl
theorem qN:(T.gk).cells?=some [.gk]:=rfl
theorem qO:(T.b0).cells?=some [.b0]:=rfl
theorem Q5 (v:T):AR [v]=v:=rfl
theorem Q6 (v w:T):AR [v,w]=.bF [v,w]:=rfl
theorem Q7 (v w x:T):AR [v,w,x]=.bF [v,w,x]:=rfl
theorem Ei (k:IntKind)(n:Int):(T.int k n).erase=.int k n:=rfl
theorem Ej (s:ByteArray):(T.str s).erase=.str s:=rfl
theorem zW (s:Bool):(T.bool s).erase=.bool s:=rfl
theorem Lj (k:SK)(l:List (List T)):(T.sl k l).erase=.sl .arg l:=rfl
theorem Ek (a b:Nat):(T.ptr a b).erase=.ptr a b:=rfl
theorem uB (b:Nat):(T.map b).erase=.map b:=rfl
theorem zX:(T.gk).erase=.gk:=rfl
theorem zY:(T.b0).erase=.b0:=rfl
theorem Lk (H:af)(n:Nat)(k:SK)(es:List (List T)):bK H n (.sl k es)=if es.all (·.length==n)then some es else none:=rfl
theorem El (R:ar):bL R Option.none=true:=rfl
theorem Em (p:Prop):(True→p)=p:=by simp
theorem Ll (p:Prop):(p→True)=True:=by simp
theorem Lm (p:Prop):(true=true→p)=p:=by simp
theorem Ln (p:Prop):(false=true→p)=True:=by simp
theorem En (b:Bool):KH .not (.bool b)=some (.bool !b):=rfl
theorem Eo (k:IntKind)(a b:Int):cH .add (.int k a) (.int k b)=some (.int k (k.wrap (a+b))):=by simp[cH]
theorem Ep (k:IntKind)(a b:Int):cH .sub (.int k a) (.int k b)=some (.int k (k.wrap (a-b))):=by simp[cH]
theorem Er (k:IntKind)(a b:Int):cH .mul (.int k a) (.int k b)=some (.int k (k.wrap (a*b))):=by simp[cH]
theorem Es (k:IntKind)(a b:Int):cH .quo (.int k a) (.int k b)=if b=0 then none else some (.int k (k.wrap (a.tdiv b))):=by simp[cH]
theorem Et (k:IntKind)(a b:Int):cH .rem (.int k a) (.int k b)=if b=0 then none else some (.int k (a.tmod b)):=by simp[cH]
theorem Eu (k k':IntKind)(a b:Int):cH .shl (.int k a) (.int k' b)=if b<0 then none else some (.int k (k.wrap (a*2^(min b.toNat k.bits)))):=by simp[cH]
theorem Ev (k k':IntKind)(a b:Int):cH .shr (.int k a) (.int k' b)=if b<0 then none else some (.int k (a.fdiv (2^(min b.toNat k.bits)))):=by simp[cH]
theorem Ew (k:IntKind)(a b:Int):cH .and (.int k a) (.int k b)=some (.int k (k.wrap (BitVec.ofInt k.bits a &&& BitVec.ofInt k.bits b).toNat)):=by simp[cH]
theorem Lo (k:IntKind)(a b:Int):cH .or (.int k a) (.int k b)=some (.int k (k.wrap (BitVec.ofInt k.bits a ||| BitVec.ofInt k.bits b).toNat)):=by simp[cH]
theorem Ey (k:IntKind)(a b:Int):cH .xor (.int k a) (.int k b)=some (.int k (k.wrap (BitVec.ofInt k.bits a ^^^ BitVec.ofInt k.bits b).toNat)):=by simp[cH]
theorem Ez (k:IntKind)(a b:Int):cH .eql (.int k a) (.int k b)=some (.bool (a==b)):=by simp[cH]
theorem EA (k:IntKind)(a b:Int):cH .neq (.int k a) (.int k b)=some (.bool (a != b)):=by simp[cH]
theorem EB (k:IntKind)(a b:Int):cH .lss (.int k a) (.int k b)=some (.bool (a<b)):=by simp[cH]
theorem EC (k:IntKind)(a b:Int):cH .leq (.int k a) (.int k b)=some (.bool (a≤b)):=by simp[cH]
theorem ED (k:IntKind)(a b:Int):cH .gtr (.int k a) (.int k b)=some (.bool (b<a)):=by simp[cH]
theorem EE (k:IntKind)(a b:Int):cH .geq (.int k a) (.int k b)=some (.bool (b≤a)):=by simp[cH]
theorem EF (a b:ByteArray):cH .eql (.str a) (.str b)=some (.bool (decide (a=b))):=by simp[cH,fw]
theorem EG (a b:ByteArray):cH .neq (.str a) (.str b)=some (.bool (!decide (a=b))):=by simp[cH,fw]
theorem EH (a b:ByteArray):cH .lss (.str a) (.str b)=some (.bool (strLt a b)):=by rfl
theorem EI (a b:ByteArray):cH .leq (.str a) (.str b)=some (.bool (!strLt b a)):=by have:=not_le b a;simp only[cH,Option.some.injEq,T.bool.injEq];rw[←this];simp
theorem EJ (a b:ByteArray):cH .gtr (.str a) (.str b)=some (.bool (strLt b a)):=by have:=not_le b a;simp only[cH,Option.some.injEq,T.bool.injEq];exact this
theorem EK (a b:ByteArray):cH .geq (.str a) (.str b)=some (.bool (!strLt a b)):=by rfl
theorem EL (a b:ByteArray):cH .add (.str a) (.str b)=if a.size+b.size≤9223372036854775807 then some (.str (a++b))else none:=rfl
theorem EM (a b:Nat):decide ((a:Int)<(no_index (OfNat.ofNat b)))=decide (a<OfNat.ofNat b):=U8 a b
theorem EN (a b:Nat):decide ((no_index (OfNat.ofNat b):Int)<(a:Int))=decide (OfNat.ofNat b<a):=U8 b a
theorem EO (a b:Nat):decide ((a:Int)≤(no_index (OfNat.ofNat b)))=decide (a≤OfNat.ofNat b):=U9 a b
theorem EP (a b:Nat):decide ((no_index (OfNat.ofNat b):Int)≤(a:Int))=decide (OfNat.ofNat b≤a):=U9 b a
theorem ER (a b:Nat):((a:Int)==(no_index (OfNat.ofNat b)))=decide (a=OfNat.ofNat b):=Q0 a b
theorem ES (a b:Nat):((a:Int) != (no_index (OfNat.ofNat b)))=!decide (a=OfNat.ofNat b):=Wz a b
set_option linter.defProp false in
theorem S1:type_of% (And.intro (@QV)<|And.intro (@al.eq_37)<|And.intro (@al.eq_38)<|And.intro (@al.eq_43)<|And.intro (@al.eq_44)<|And.intro (@al.eq_45)<|And.intro (@Q1)<|And.intro (@Q2)<|And.intro (@Q3)<|And.intro (@gh.eq_1)<|And.intro (@gh.eq_2)<|And.intro (@El)<|And.intro (@Em)<|And.intro (@Ll)<|And.intro (@Lm)<|And.intro (@Ln)<|And.intro (@DL)<|And.intro (@List.nil_append.{0})<|And.intro (@List.append_nil.{0})<|And.intro (@List.cons_append.{0})<|And.intro (@Ei)<|And.intro (@Ej)<|And.intro (@zW)<|And.intro (@Lj)<|And.intro (@Ek)<|And.intro (@uB)<|And.intro (@zX)<|And.intro (@zY)<|And.intro (@Lk)<|And.intro (@fm.eq_1)<|And.intro (@fm.eq_2)<|And.intro (@l8.eq_1)<|And.intro (@l8.eq_2)<|And.intro (@jd.eq_1)<|And.intro (@jd.eq_2)<|And.intro (@je.eq_1)<|And.intro (@je.eq_2)<|And.intro (@List.replicate_zero.{0})<|And.intro (@List.replicate_succ.{0})<|And.intro (@List.set_cons_zero.{0})<|And.intro (@List.set_cons_succ.{0})<|And.intro (@List.all_cons.{0})<|And.intro (@List.all_nil.{0})<|And.intro (@Bool.and_true)<|And.intro (@Bool.true_and)<|And.intro (@cV)<|And.intro (@zT)<|And.intro (@mH)<|And.intro (@zU)<|And.intro (@gY)<|And.intro (@zV)<|And.intro (@EM)<|And.intro (@EN)<|And.intro (@EO)<|And.intro (@EP)<|And.intro (@ER)<|And.intro (@ES)<|And.intro (@KZ)<|And.intro (@b_b)<|And.intro (@b_g)<|And.intro (@b_c)<|And.intro (@QU)<|And.intro (@DM)<|And.intro (@K0)<|And.intro (@K1)<|And.intro (@DN)<|And.intro (@DP)<|And.intro (@DQ)<|And.intro (@K3)<|And.intro (@zM)<|And.intro (@fE)<|And.intro (@DR)<|And.intro (@pO)<|And.intro (@DS)<|And.intro (@K4)<|And.intro (@DT)<|And.intro (@zN)<|And.intro (@cO)<|And.intro (@DU)<|And.intro (@DV)<|And.intro (@dH)<|And.intro (@DW)<|And.intro (@DX)<|And.intro (@K5)<|And.intro (@K6)<|And.intro (@K7)<|And.intro (@Bool.false_eq_true)<|And.intro (@DY)<|And.intro (@DZ)<|And.intro (@K8)<|And.intro (@Lb)<|And.intro (@K9)<|And.intro (@La)<|And.intro (@wC)<|And.intro (@s7)<|And.intro (@List.length_cons.{0})<|And.intro (@List.length_nil.{0})<|And.intro (@List.drop_succ_cons.{0})<|And.intro (@List.drop_zero.{0})<|And.intro (@List.take_succ_cons.{0})<|And.intro (@List.take_zero.{0})<|And.intro (@te)<|And.intro (@tf)<|And.intro (@tg)<|And.intro (@qM)<|And.intro (@wR)<|And.intro (@th)<|And.intro (@ti)<|And.intro (@tj)<|And.intro (@qN)<|And.intro (@qO)<|And.intro (@vC.eq_1)<|And.intro (@vC.eq_2)<|And.intro (@Nat.zero_add)<|And.intro (@QR)<|And.intro (@QS)<|And.intro (@uw.eq_1)<|And.intro (@uw.eq_2)<|And.intro (@DH)<|And.intro (@DI)<|And.intro (@DJ)<|And.intro (@zL)<|And.intro (@zP)<|And.intro (@zQ)<|And.intro (@zR)<|And.intro (@zS)<|And.intro (@true_and)<|And.intro (@and_true)<|And.intro (@Option.map_some.{0,0})<|And.intro (@Option.bind_some.{0,0})<|And.intro (@En)<|And.intro (@jf.eq_1)<|And.intro (@jf.eq_2)<|And.intro (@jf.eq_3)<|And.intro (@jf.eq_4)<|And.intro (@jf.eq_5)<|And.intro (@aa)<|And.intro (@QY)<|And.intro (@QZ)<|And.intro (@yn.eq_1)<|And.intro (@yn.eq_2)<|And.intro (@pn.eq_1)<|And.intro (@rN.eq_1)<|And.intro (@rN.eq_2)<|And.intro (@xM.eq_1)<|And.intro (@xM.eq_2)<|And.intro (@Q5)<|And.intro (@Q6)<|And.intro (@Q7)<|And.intro (@U8)<|And.intro (@U9)<|And.intro (@Q0)<|And.intro (@Wz)<|And.intro (@List.map_cons.{0,0})<|And.intro (@List.map_nil.{0,0})<|And.intro (@decide_true)<|And.intro (@decide_false)<|And.intro (@fw)<|And.intro (@Bool.not_true)<|And.intro (@Bool.not_false)<|And.intro (@beq_self_eq_true.{0})<|And.intro (@bne_self_eq_false.{0})<|And.intro (@List.getElem?_cons_zero.{0})<|And.intro (@List.getElem?_cons_succ.{0})<|And.intro (@List.getElem?_nil.{0})<|And.intro (@List.length_map.{0,0})<|And.intro (@zO)<|And.intro (@T.bool.injEq)<|And.intro (@T.int.injEq)<|And.intro (@T.str.injEq)<|And.intro (@T.bF.injEq)<|And.intro (@al.eq_1)<|And.intro (@al.eq_2)<|And.intro (@al.eq_3)<|And.intro (@al.eq_4)<|And.intro (@al.eq_5)<|And.intro (@al.eq_6)<|And.intro (@al.eq_7)<|And.intro (@al.eq_8)<|And.intro (@al.eq_9)<|And.intro (@al.eq_10)<|And.intro (@al.eq_11)<|And.intro (@al.eq_12)<|And.intro (@al.eq_13)<|And.intro (@al.eq_14)<|And.intro (@al.eq_15)<|And.intro (@al.eq_16)<|And.intro (@al.eq_17)<|And.intro (@al.eq_18)<|And.intro (@al.eq_19)<|And.intro (@al.eq_20)<|And.intro (@al.eq_21)<|And.intro (@al.eq_22)<|And.intro (@al.eq_23)<|And.intro (@al.eq_24)<|And.intro (@al.eq_25)<|And.intro (@al.eq_26)<|And.intro (@D9)<|And.intro (@wH)<|And.intro (@Eb)<|And.intro (@wI)<|And.intro (@Ec)<|And.intro (@Ed)<|And.intro (@Ee)<|And.intro (@wJ)<|And.intro (@Ef)<|And.intro (@Eg)<|And.intro (@Eh)<|And.intro (@nz)<|And.intro (@al.eq_30)<|And.intro (@al.eq_31)<|And.intro (@al.eq_32)<|And.intro (@al.eq_33)<|And.intro (@al.eq_34)<|And.intro (@al.eq_35)<|And.intro (@al.eq_36)<|And.intro (@D6)<|And.intro (@D7)<|And.intro (@wE)<|And.intro (@fe)<|And.intro (@kX)<|And.intro (@wO)<|And.intro (@mI)<|And.intro (@qL)<|And.intro (@wP)<|And.intro (@wQ)<|And.intro (@ta)<|And.intro (@td)<|And.intro (@Eo)<|And.intro (@Ep)<|And.intro (@Er)<|And.intro (@Es)<|And.intro (@Et)<|And.intro (@Eu)<|And.intro (@Ev)<|And.intro (@Ew)<|And.intro (@Lo)<|And.intro (@Ey)<|And.intro (@Ez)<|And.intro (@EA)<|And.intro (@EB)<|And.intro (@EC)<|And.intro (@ED)<|And.intro (@EE)<|And.intro (@EF)<|And.intro (@EG)<|And.intro (@EH)<|And.intro (@EI)<|And.intro (@EJ)<|And.intro (@EK)<|(@EL)):=And.intro (@QV)<|And.intro (@al.eq_37)<|And.intro (@al.eq_38)<|And.intro (@al.eq_43)<|And.intro (@al.eq_44)<|And.intro (@al.eq_45)<|And.intro (@Q1)<|And.intro (@Q2)<|And.intro (@Q3)<|And.intro (@gh.eq_1)<|And.intro (@gh.eq_2)<|And.intro (@El)<|And.intro (@Em)<|And.intro (@Ll)<|And.intro (@Lm)<|And.intro (@Ln)<|And.intro (@DL)<|And.intro (@List.nil_append.{0})<|And.intro (@List.append_nil.{0})<|And.intro (@List.cons_append.{0})<|And.intro (@Ei)<|And.intro (@Ej)<|And.intro (@zW)<|And.intro (@Lj)<|And.intro (@Ek)<|And.intro (@uB)<|And.intro (@zX)<|And.intro (@zY)<|And.intro (@Lk)<|And.intro (@fm.eq_1)<|And.intro (@fm.eq_2)<|And.intro (@l8.eq_1)<|And.intro (@l8.eq_2)<|And.intro (@jd.eq_1)<|And.intro (@jd.eq_2)<|And.intro (@je.eq_1)<|And.intro (@je.eq_2)<|And.intro (@List.replicate_zero.{0})<|And.intro (@List.replicate_succ.{0})<|And.intro (@List.set_cons_zero.{0})<|And.intro (@List.set_cons_succ.{0})<|And.intro (@List.all_cons.{0})<|And.intro (@List.all_nil.{0})<|And.intro (@Bool.and_true)<|And.intro (@Bool.true_and)<|And.intro (@cV)<|And.intro (@zT)<|And.intro (@mH)<|And.intro (@zU)<|And.intro (@gY)<|And.intro (@zV)<|And.intro (@EM)<|And.intro (@EN)<|And.intro (@EO)<|And.intro (@EP)<|And.intro (@ER)<|And.intro (@ES)<|And.intro (@KZ)<|And.intro (@b_b)<|And.intro (@b_g)<|And.intro (@b_c)<|And.intro (@QU)<|And.intro (@DM)<|And.intro (@K0)<|And.intro (@K1)<|And.intro (@DN)<|And.intro (@DP)<|And.intro (@DQ)<|And.intro (@K3)<|And.intro (@zM)<|And.intro (@fE)<|And.intro (@DR)<|And.intro (@pO)<|And.intro (@DS)<|And.intro (@K4)<|And.intro (@DT)<|And.intro (@zN)<|And.intro (@cO)<|And.intro (@DU)<|And.intro (@DV)<|And.intro (@dH)<|And.intro (@DW)<|And.intro (@DX)<|And.intro (@K5)<|And.intro (@K6)<|And.intro (@K7)<|And.intro (@Bool.false_eq_true)<|And.intro (@DY)<|And.intro (@DZ)<|And.intro (@K8)<|And.intro (@Lb)<|And.intro (@K9)<|And.intro (@La)<|And.intro (@wC)<|And.intro (@s7)<|And.intro (@List.length_cons.{0})<|And.intro (@List.length_nil.{0})<|And.intro (@List.drop_succ_cons.{0})<|And.intro (@List.drop_zero.{0})<|And.intro (@List.take_succ_cons.{0})<|And.intro (@List.take_zero.{0})<|And.intro (@te)<|And.intro (@tf)<|And.intro (@tg)<|And.intro (@qM)<|And.intro (@wR)<|And.intro (@th)<|And.intro (@ti)<|And.intro (@tj)<|And.intro (@qN)<|And.intro (@qO)<|And.intro (@vC.eq_1)<|And.intro (@vC.eq_2)<|And.intro (@Nat.zero_add)<|And.intro (@QR)<|And.intro (@QS)<|And.intro (@uw.eq_1)<|And.intro (@uw.eq_2)<|And.intro (@DH)<|And.intro (@DI)<|And.intro (@DJ)<|And.intro (@zL)<|And.intro (@zP)<|And.intro (@zQ)<|And.intro (@zR)<|And.intro (@zS)<|And.intro (@true_and)<|And.intro (@and_true)<|And.intro (@Option.map_some.{0,0})<|And.intro (@Option.bind_some.{0,0})<|And.intro (@En)<|And.intro (@jf.eq_1)<|And.intro (@jf.eq_2)<|And.intro (@jf.eq_3)<|And.intro (@jf.eq_4)<|And.intro (@jf.eq_5)<|And.intro (@aa)<|And.intro (@QY)<|And.intro (@QZ)<|And.intro (@yn.eq_1)<|And.intro (@yn.eq_2)<|And.intro (@pn.eq_1)<|And.intro (@rN.eq_1)<|And.intro (@rN.eq_2)<|And.intro (@xM.eq_1)<|And.intro (@xM.eq_2)<|And.intro (@Q5)<|And.intro (@Q6)<|And.intro (@Q7)<|And.intro (@U8)<|And.intro (@U9)<|And.intro (@Q0)<|And.intro (@Wz)<|And.intro (@List.map_cons.{0,0})<|And.intro (@List.map_nil.{0,0})<|And.intro (@decide_true)<|And.intro (@decide_false)<|And.intro (@fw)<|And.intro (@Bool.not_true)<|And.intro (@Bool.not_false)<|And.intro (@beq_self_eq_true.{0})<|And.intro (@bne_self_eq_false.{0})<|And.intro (@List.getElem?_cons_zero.{0})<|And.intro (@List.getElem?_cons_succ.{0})<|And.intro (@List.getElem?_nil.{0})<|And.intro (@List.length_map.{0,0})<|And.intro (@zO)<|And.intro (@T.bool.injEq)<|And.intro (@T.int.injEq)<|And.intro (@T.str.injEq)<|And.intro (@T.bF.injEq)<|And.intro (@al.eq_1)<|And.intro (@al.eq_2)<|And.intro (@al.eq_3)<|And.intro (@al.eq_4)<|And.intro (@al.eq_5)<|And.intro (@al.eq_6)<|And.intro (@al.eq_7)<|And.intro (@al.eq_8)<|And.intro (@al.eq_9)<|And.intro (@al.eq_10)<|And.intro (@al.eq_11)<|And.intro (@al.eq_12)<|And.intro (@al.eq_13)<|And.intro (@al.eq_14)<|And.intro (@al.eq_15)<|And.intro (@al.eq_16)<|And.intro (@al.eq_17)<|And.intro (@al.eq_18)<|And.intro (@al.eq_19)<|And.intro (@al.eq_20)<|And.intro (@al.eq_21)<|And.intro (@al.eq_22)<|And.intro (@al.eq_23)<|And.intro (@al.eq_24)<|And.intro (@al.eq_25)<|And.intro (@al.eq_26)<|And.intro (@D9)<|And.intro (@wH)<|And.intro (@Eb)<|And.intro (@wI)<|And.intro (@Ec)<|And.intro (@Ed)<|And.intro (@Ee)<|And.intro (@wJ)<|And.intro (@Ef)<|And.intro (@Eg)<|And.intro (@Eh)<|And.intro (@nz)<|And.intro (@al.eq_30)<|And.intro (@al.eq_31)<|And.intro (@al.eq_32)<|And.intro (@al.eq_33)<|And.intro (@al.eq_34)<|And.intro (@al.eq_35)<|And.intro (@al.eq_36)<|And.intro (@D6)<|And.intro (@D7)<|And.intro (@wE)<|And.intro (@fe)<|And.intro (@kX)<|And.intro (@wO)<|And.intro (@mI)<|And.intro (@qL)<|And.intro (@wP)<|And.intro (@wQ)<|And.intro (@ta)<|And.intro (@td)<|And.intro (@Eo)<|And.intro (@Ep)<|And.intro (@Er)<|And.intro (@Es)<|And.intro (@Et)<|And.intro (@Eu)<|And.intro (@Ev)<|And.intro (@Ew)<|And.intro (@Lo)<|And.intro (@Ey)<|And.intro (@Ez)<|And.intro (@EA)<|And.intro (@EB)<|And.intro (@EC)<|And.intro (@ED)<|And.intro (@EE)<|And.intro (@EF)<|And.intro (@EG)<|And.intro (@EH)<|And.intro (@EI)<|And.intro (@EJ)<|And.intro (@EK)<|(@EL)
theorem S2:type_of% (And.intro (@not_false_eq_true)<|And.intro (@ne_eq.{1})<|And.intro (@Nat.lt_succ_self)<|And.intro (@aU)<|And.intro (@aV)<|And.intro (@bU)<|And.intro (@bf)<|And.intro (@uy)<|And.intro (@Lf)<|And.intro (@Lg)<|And.intro (@Lh)<|And.intro (@Li)<|And.intro (@List.nil_append.{0})<|And.intro (@List.append_nil.{0})<|And.intro (@List.cons_append.{0}) (@List.drop_nil.{0})):=And.intro (@not_false_eq_true)<|And.intro (@ne_eq.{1})<|And.intro (@Nat.lt_succ_self)<|And.intro (@aU)<|And.intro (@aV)<|And.intro (@bU)<|And.intro (@bf)<|And.intro (@uy)<|And.intro (@Lf)<|And.intro (@Lg)<|And.intro (@Lh)<|And.intro (@Li)<|And.intro (@List.nil_append.{0})<|And.intro (@List.append_nil.{0})<|And.intro (@List.cons_append.{0}) (@List.drop_nil.{0})
theorem Lp (H:af)(x:B):(H++[x]).length=H.length+1:=by simp
theorem Q8 {b n:Nat}(h:b<n):(b<n+1)=True:=by simp;omega
theorem S3:type_of% (And.intro (@Lp)<|And.intro (@Q8) (@Nat.add_assoc)):=And.intro (@Lp)<|And.intro (@Q8) (@Nat.add_assoc)
section
variable {α:Type} {enc:α→List T} {n:Nat}
def aJ (enc:α→List T)(xs:List α):List T:=xs.flatMap enc
theorem du (hn:∀x,(enc x).length=n):∀xs:List α,(aJ enc xs).length=xs.length*n
 | []=>by simp[aJ]
 | x :: xs=>by
  have:=du hn xs
  simp only[aJ,List.flatMap_cons,List.length_append,hn,List.length_cons]at this ⊢
  rw[this,Nat.add_mul];omega
theorem kY (hn:∀x,(enc x).length=n):∀(xs:List α) (i:Nat),(aJ enc xs).drop (i*n)=aJ enc (xs.drop i)
 | xs,0=>by simp
 | [],i+1=>by simp[aJ]
 | x :: xs,i+1=>by
  have:=kY hn xs i
  simp only[aJ,List.flatMap_cons,List.drop_succ_cons]at this ⊢
  rw[show(i+1)*n=(enc x).length+i*n by rw[hn,Nat.add_mul];omega,List.drop_append,List.drop_eq_nil_of_le (by omega)]
  simp[this]
theorem jm (hn:∀x,(enc x).length=n):∀(xs:List α) (i:Nat),(aJ enc xs).take (i*n)=aJ enc (xs.take i)
 | xs,0=>by simp[aJ]
 | [],i+1=>by simp[aJ]
 | x :: xs,i+1=>by
  have:=jm hn xs i
  simp only[aJ,List.flatMap_cons,List.take_succ_cons]at this ⊢
  rw[show(i+1)*n=(enc x).length+i*n by rw[hn,Nat.add_mul];omega,List.take_append,List.take_of_length_le (by omega)]
  simp[this]
theorem jM (hn:∀x,(enc x).length=n){xs:List α}{i:Nat}{x:α}(hx:xs[i]?=some x)(off m:Nat)(h:off+m≤n):sd m (i*n+off) (some (.cells (aJ enc xs)))=some (((enc x).drop off).take m):=by
 have hi:=(List.getElem?_eq_some_iff.1 hx).1
 have h1:i*n+n≤xs.length*n:=by rw[←Nat.succ_mul];exact Nat.mul_le_mul_right n hi
 have e:(aJ enc xs).drop (i*n)=enc x++aJ enc (xs.drop (i+1)):=by
  rw[kY hn,List.drop_eq_getElem_cons hi]
  have:xs[i]=x:=(List.getElem?_eq_some_iff.1 hx).2
  rw[this];rfl
 rw[mH,if_pos (by rw[du hn];omega),←List.drop_drop,e,List.drop_append,List.take_append,hn]
 rw[show m-((enc x).drop off).length=0 by rw[List.length_drop,hn];omega]
 simp
theorem lE (hn:∀x,(enc x).length=n){xs:List α}{i:Nat}{x y:α}(hx:xs[i]?=some x)(H:af)(b:Nat)(vs:List T)(off:Nat)(h:off+vs.length≤n)(hy:enc y=(enc x).take off++vs++(enc x).drop (off+vs.length)) :
  pr H b vs (i*n+off) (some (.cells (aJ enc xs)))=some (H.set b (.cells (aJ enc (xs.set i y)))):=by
 have hi:=(List.getElem?_eq_some_iff.1 hx).1
 have hxi:xs[i]=x:=(List.getElem?_eq_some_iff.1 hx).2
 have h1:i*n+n≤xs.length*n:=by rw[←Nat.succ_mul];exact Nat.mul_le_mul_right n hi
 rw[gY,if_pos (by rw[du hn];omega)]
 have e:(aJ enc xs).drop (i*n)=enc x++aJ enc (xs.drop (i+1)):=by
  rw[kY hn,List.drop_eq_getElem_cons hi,hxi];rfl
 have t:(aJ enc xs).take (i*n+off)=aJ enc (xs.take i)++(enc x).take off:=by
  rw[List.take_add,jm hn,e,List.take_append,hn,show off-n=0 by omega];simp
 have d:(aJ enc xs).drop (i*n+off+vs.length)=(enc x).drop (off+vs.length)++aJ enc (xs.drop (i+1)):=by
  rw[Nat.add_assoc,←List.drop_drop,e,List.drop_append,hn,show off+vs.length-n=0 by omega];simp
 rw[t,d]
 have:xs.set i y=xs.take i++y :: xs.drop (i+1):=by rw[List.set_eq_take_append_cons_drop,if_pos hi]
 rw[this]
 simp only[aJ,List.flatMap_append,List.flatMap_cons,hy,List.append_assoc]
theorem Jg (k:Nat)(z:α):(List.replicate k (enc z)).flatten=aJ enc (List.replicate k z):=by
 induction k with
 | zero=>rfl
 | succ k ih=>simp only[List.replicate_succ,List.flatten_cons,ih,aJ,List.flatMap_cons]
end
theorem jV (n i b off len:Nat):dE n i (.ax b off len n)=if i<len then if n=0 then none else some (.ptr b (off+i*n))else none:=by
 simp only[dE,true_and,ne_eq]
 by_cases h:i<len<;>by_cases h':n=0<;>simp[h,h']
def eU (n:Nat):List T:=[.int .u64 n]
def lF (n0:Nat)(H:af)(k:SK):Prop:=k=.nil∨k=.full∨∃t e,k=.own t e∧n0≤t∧H[t]?=some (.tok e)
structure wT (n0:Nat)(H:af)(k:SK)(H':af):Prop where
 len:H.length≤H'.length
 get:∀b x,H[b]?=some x→(∀e,k≠.own b e)→H'[b]?=some x
 ext:∀H0:af,H0.length≤n0→Ext H0 H→Ext H0 H'
theorem wT.cells {n0:Nat}{H H':af}{k:SK}(h:wT n0 H k H')(ha:lF n0 H k){b:Nat}{x:B}(hx:H[b]?=some x)(ht:∀e,x≠.tok e):H'[b]?=some x:=h.get b x hx fun e he=>by
 rcases ha with h|h|⟨t,e',h,_,h'⟩
 ·rw[he]at h;cases h
 ·rw[he]at h;cases h
 ·rw[he]at h;cases h;rw[hx]at h';cases h';exact ht _ rfl
theorem kZ {n0:Nat}{H:af}{k:SK}{bytes:Nat}(es new:List (List T))(hk:lF n0 H k)(ji:n0≤H.length)(ir:new≠[])(hr:db (es.length+new.length) bytes=true) :
  ∃k' H',gM H bytes k es new=some (.sl k' (es++new.map (·.map T.erase)),H')∧lF n0 H' k'∧wT n0 H k H':=by
 unfold gM
 cases new with
 | nil=>exact absurd rfl ir
 | cons c new =>
  simp only[hr,if_true]
  rcases hk with rfl|rfl|⟨t,e,rfl,ht,hg⟩
  ·exact⟨_,_,rfl,.inr (.inr ⟨_,_,rfl,ji,aU rfl⟩),⟨by simp,fun b x hx _=>by rw[aV (aW hx)];exact hx,fun H0 _ h=>h.app _⟩⟩
  ·exact⟨_,_,rfl,.inr (.inr ⟨_,_,rfl,ji,aU rfl⟩),⟨by simp,fun b x hx _=>by rw[aV (aW hx)];exact hx,fun H0 _ h=>h.app _⟩⟩
  ·simp only[hg,if_true]
   refine⟨_,_,rfl,.inr (.inr ⟨_,_,rfl,ht,bU (aW hg)⟩),⟨by simp,fun b x hx bG=>?_,fun H0 h0 h=>h.set (Nat.le_trans h0 ht) _⟩⟩
   have:t≠b:=fun h=>bG e (by rw[h])
   rw[bf this];exact hx
theorem iH (n0:Nat)(H:af):lF n0 H .nil:=.inl rfl
theorem lF.ext {n0:Nat}{H H':af}{k:SK}(h:lF n0 H k)(hx:Ext H H'):lF n0 H' k:=by
 rcases h with h|h|⟨t,e,h,h1,h2⟩
 ·exact .inl h
 ·exact .inr (.inl h)
 ·exact .inr (.inr ⟨t,e,h,h1,hx.get h2⟩)
theorem lF.set {n0:Nat}{H:af}{k:SK}(h:lF n0 H k){c:Nat}{x:B}(hx:H[c]?=some x)(ht:∀e,x≠.tok e)(y:B):lF n0 (H.set c y) k:=by
 rcases h with h|h|⟨t,e,h,h1,h2⟩
 ·exact .inl h
 ·exact .inr (.inl h)
 ·refine .inr (.inr ⟨t,e,h,h1,?_⟩)
  have:c≠t:=fun he=>by subst he;rw[hx]at h2;cases h2;exact ht _ rfl
  rw[bf this];exact h2
theorem ET {n b:Nat}{res:List Rs}{Q:Out→af→Prop}{R:ar}{H:af}(h:R n=.bF [.ptr b 0])(hd:H[b]?=some .zf)
  (hq:match pn R (H.set b .dead) res with|some v=>Q (.val v) (H.set b .dead)|none=>False):QW n res Q (.ex .ret R) H :=
 ⟨[b],by rw[h];rfl,by simp,by simp[hd],hq⟩
theorem Lq (b:Nat):m4 (.bF []) b=.bF [.ptr b 0]:=rfl
theorem jn {n m:Nat}(h:(n+n/4+512)*m≤281474976710656):db n m=true:=by simp[db,h]
theorem all_map {α:Type}{enc:α→List T}{n:Nat}(hn:∀x,(enc x).length=n)(l:List α):(l.map enc).all (fun c=>c.length==n)=true:=by simp[hn]
def pc {α:Type}(enc:α→List T)(n n0:Nat)(H:af)(t:T)(l:List α):Prop :=
 (l=[]∧t=.sl .nil [])∨∃b,t=.ax b 0 l.length n∧H[b]?=some (.cells (aJ enc l))∧n0≤b
theorem nA {α:Type}(enc:α→List T)(n n0:Nat)(H:af):pc enc n n0 H (.sl .nil []) []:=.inl ⟨rfl,rfl⟩
theorem pc.ext {α:Type}{enc:α→List T}{n n0:Nat}{H H':af}{t:T}{l:List α}(h:pc enc n n0 H t l)(hx:Ext H H'):pc enc n n0 H' t l:=by
 rcases h with h|⟨b,h1,h2,h3⟩
 ·exact .inl h
 ·exact .inr ⟨b,h1,hx.get h2,h3⟩
theorem pc.len {α:Type}{enc:α→List T}{n n0:Nat}{H:af}{t:T}{l:List α}(h:pc enc n n0 H t l):jf H .sl t=some l.length:=by
 rcases h with⟨rfl,rfl⟩|⟨b,rfl,_,_⟩<;>rfl
structure Q9 (n0:Nat)(H:af)(t:T)(H':af):Prop where
 len:H.length≤H'.length
 get:∀b x,H[b]?=some x→(∀off len n,t≠.ax b off len n)→H'[b]?=some x
 ext:∀H0:af,H0.length≤n0→Ext H0 H→Ext H0 H'
theorem pP {α:Type}{enc:α→List T}{n n0:Nat}(hn:∀x,(enc x).length=n){H:af}{t:T}{l:List α}{bytes:Nat}(new:List α)(h:pc enc n n0 H t l)(ji:n0≤H.length)(ir:new≠[])(hr:db (l.length+new.length) bytes=true) :
  ∃t' H',m3 H n bytes t (new.map enc)=some (t',H')∧pc enc n n0 H' t' (l++new)∧Q9 n0 H t H':=by
 have rF:(new.map enc).flatten=aJ enc new:=by simp[aJ,List.flatMap]
 have qH:∀l:List α,aJ enc l++aJ enc new=aJ enc (l++new):=fun l=>by simp[aJ]
 unfold m3
 cases new with
 | nil=>exact absurd rfl ir
 | cons c new =>
  rcases h with⟨rfl,rfl⟩|⟨b,rfl,hb,Ha⟩
  ·simp only[List.map_cons,List.length_cons,List.length_nil,List.length_map,Nat.zero_add]at hr rF ⊢
   simp only[hr,and_true,if_true]
   refine⟨_,_,rfl,.inr ⟨H.length,by simp,?_,ji⟩,⟨by simp,fun b x hx _=>by rw[aV (aW hx)];exact hx,fun H0 _ h=>h.app _⟩⟩
   rw[aU rfl,rF];rfl
  ·have hc:l.length*n=(aJ enc l).length:=(du hn l).symm
   simp only[List.map_cons,List.length_cons,List.length_map]at hr rF ⊢
   simp only[hb,hc,hr,and_self,if_true]
   refine⟨_,_,rfl,.inr ⟨H.length,by simp,?_,ji⟩,⟨by simp,fun b' x hx bG=>?_,fun H0 h0 h=>(h.set (Nat.le_trans h0 Ha) _).app _⟩⟩
   ·rw[aU (by simp),rF,qH]
   ·have WA:b≠b':=fun e=>bG 0 l.length n (by rw[e])
    rw[aV (by rw[List.length_set];exact aW hx),bf WA];exact hx
theorem zZ {α:Type}{enc:α→List T}{n:Nat}(hn:∀x,(enc x).length=n)(l:List α):rO (aJ enc l) 0 l.length n=l.map enc:=by
 unfold rO
 refine List.ext_getElem? fun i=>?_
 by_cases hi:i<l.length
 ·have:=jM hn (List.getElem?_eq_getElem hi) 0 n (by omega)
  rw[mH]at this
  split at this
  ·simp only[Option.some.injEq,Nat.add_zero,List.drop_zero]at this
   simp only[List.getElem?_map,List.getElem?_range hi,Option.map_some,Nat.zero_add,this,List.getElem?_eq_getElem hi]
   rw[List.take_of_length_le (by rw[hn];omega)]
  ·cases this
 ·rw[List.getElem?_eq_none (by simp;omega),List.getElem?_eq_none (by simp;omega)]
theorem W.xN {α:Type}{enc:α→List T}{n:Nat}(hn:∀x,(enc x).length=n){E:Env}{f:Nat}{az:List T}{H:af}{l:List α}{Q:Out→af→Prop}
  (h:W E (.call f az) H (fun o H'=>∃b,o=.val (.ax b 0 l.length n)∧H'[b]?=some (.cells (aJ enc l))∧Q (.val (.sl .arg (l.map enc))) (H'.set b .dead))):W E (.call f az) H Q:=by
 refine .pE _ h fun o H' ⟨b,ho,hb,hq⟩=>⟨_,b,_,ho,rfl,hb,?_⟩
 have hc:0+l.length*n≤(aJ enc l).length:=by rw[du hn];omega
 simp only[CM,Go.Rmp.xN,hc,and_self,if_true,zZ hn]
 exact hq
end Go.Rmp
end
