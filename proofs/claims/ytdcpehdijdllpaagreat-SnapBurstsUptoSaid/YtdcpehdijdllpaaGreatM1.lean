/- Part of a proof of a law of this seat: the machine of plain values, its simulation, and the contracts of the functions that the law reaches. Conditions: none beyond the given row. -/
import Derived.Test.YtdcpehdijdllpaaGreatM0
import Derived.RangeFuncRecord
import Derived.RangeFuncIn
import Derived.OpenShut
import Derived.RowKit3
import Derived.ChangeSame
import Derived.ReadAgain
import Derived.ChangeCalls
import Derived.Deep.Frames
import Derived.Laws.Strings
open Int renaming reduceLT → q6, reduceLE → q7, reduceBEq → q8, reduceBNe → q9, reduceEq → y1
open Nat renaming reduceAdd → y2, reduceLeDiff → y3, reduceLT → y4, reduceEqDiff → y5
set_option linter.unusedSimpArgs false
set_option linter.unusedVariables false
set_option linter.unnecessarySimpa false
set_option maxHeartbeats 4000000
section
namespace Go.Rmp
section
variable {P:Program} {w0 w:World} {g:Ctx} {H H':af} {R:ar} {ρ:Operand→Value} {t:T}
theorem fG {ty:TypeId}{z:List T}(h:zeroOf P ty=some z):∃i zv,P.info? ty=some i∧i.zero=some zv∧eM zv.cells.toList=some z:=by
 unfold zeroOf at h
 cases h1:P.info? ty with
 | none=>simp[h1]at h
 | some i =>
  simp only[h1]at h
  cases h2:i.zero with
  | none=>simp[h2]at h
  | some zv=>simp only[h2]at h;exact⟨i,zv,rfl,h2,h⟩
theorem x7 {iw:List TypeId}{rt:TypeId}{mu:Bool}{as:List X}{vs:List Value}{b:Bo}(hc:lq P mu iw as=some b)(h:SR w0 g H w)(hv:bD g w (as.map (X.ev R)) vs)(he:ak R H b=some (t,H')) :
  b6 P w0 g H w (Builtin.append_ iw.toArray rt vs.toArray) t H':=by
 unfold lq at hc
 split at hc
 ·rename_i sT xT x y
  cases vs with
  | nil=>have:=hv.1;simp at this
  | cons vx vs =>
   cases vs with
   | nil=>have:=hv.1;simp at this
   | cons vy vs =>
    cases vs with
    | cons _ _=>have:=hv.1;simp at this
    | nil =>
     have hx:VR g w (x.ev R) vx:=hv.head
     have hy:VR g w (y.ev R) vy:=hv.tail.head
     cases hs:P.underlying sT with
     | none=>simp[hs]at hc
     | some ds =>
      cases IB:P.underlying xT with
      | none=>cases ds<;>simp[hs,IB]at hc
      | some dx =>
       cases ds<;>simp only[hs,IB]at hc<;>(try (cases hc;done))
       rename_i e
       cases hi:P.info? e with
       | none=>simp[hi]at hc
       | some ei =>
        simp only[hi]at hc
        cases hz:ei.zero with
        | none=>simp[hz]at hc
        | some zv =>
         simp only[hz]at hc
         split at hc
         ·rename_i cD
          simp only[Bool.and_eq_true,beq_iff_eq,bne_iff_ne]at cD
          simp at hc;subst hc
          have E:oh P sT xT e ei zv ei.size ei.bytes:=⟨hs,hi,⟨dx,IB,fun k e=>by subst e;simp[Df]at cD⟩,rfl,hz,cD.1.2,rfl,cD.2⟩
          simp only[ak]at he
          cases rW:bK H ei.size (y.ev R)with
          | none=>simp[rW]at he
          | some new =>
           simp only[rW]at he
           cases mu with
           | true =>
            simp only[if_true]at he
            exact C7 E h hx.zg hy rW he
           | false =>
            simp only[Bool.false_eq_true,if_false]at he
            generalize x.ev R=tx at hx he
            cases tx<;>(try simp only[reduceCtorEq]at he)
            split at he
            ·rename_i cn
             exact Ip E h hx hy cn rW he
            ·cases he
         ·cases hc
 ·cases hc
theorem IQ {iw:List TypeId}{rt:TypeId}{as:List X}{vs:List Value}{b:Bo}(hc:vV P iw as=some b)(h:SR w0 g H w)(hv:bD g w (as.map (X.ev R)) vs)(he:ak R H b=some (t,H')) :
  b6 P w0 g H w (Builtin.append_ iw.toArray rt vs.toArray) t H':=by
 unfold vV at hc
 split at hc
 ·rename_i sT xT x k
  cases vs with
  | nil=>have:=hv.1;simp at this
  | cons vx vs =>
   cases vs with
   | nil=>have:=hv.1;simp at this
   | cons vk vs =>
    cases vs with
    | cons _ _=>have:=hv.1;simp at this
    | nil =>
     have hx:VR g w (x.ev R) vx:=hv.head
     have hk:VR g w (k.ev R) vk:=hv.tail.head
     cases hs:P.underlying sT with
     | none=>simp[hs]at hc
     | some ds =>
      cases IB:P.underlying xT with
      | none=>cases ds<;>simp[hs,IB]at hc
      | some dx =>
       cases ds<;>cases dx<;>simp only[hs,IB]at hc<;>(try (cases hc;done))
       rename_i e kn
       cases hi:P.info? e with
       | none=>simp[hi]at hc
       | some ei =>
        cases hz:zeroOf P e with
        | none=>simp[hi,hz]at hc
        | some z =>
         simp only[hi,hz]at hc
         split at hc
         ·rename_i cD
          simp only[bne_iff_ne,ne_eq]at cD
          simp only[Option.some.injEq]at hc;subst hc
          obtain⟨i,zv,h1,h2,h3⟩:=fG hz
          rw[hi]at h1;cases h1
          simp only[ak,Option.bind_eq_some_iff]at he
          obtain⟨kk,bO,he⟩:=he
          generalize k.ev R=tk at hk bO
          cases hk<;>simp only[cj]at bO<;>(try (cases bO;done))
          rename_i kq m
          split at bO
          ·rename_i hm
           simp only[Option.some.injEq]at bO
           subst bO
           have:=IA (rt:=rt) (kq:=kq) hs IB hi h2 h3 cD h hx he
           rw[Int.toNat_of_nonneg hm]at this
           exact this
          ·cases bO
         ·cases hc
 ·cases hc
theorem IS {f:FuncId}{n:Nat}{x y:X}{args:Array Operand}{ρ:Operand→Value}(vt:zs P f=some n)(h:SR w0 g H w)(hY:bD g w ([x,y].map (X.ev R)) (args.toList.map ρ))(he:AV H n (x.ev R) (y.ev R)=some (t,H')) :
  IL P w0 g H w (callFunc f (args.map ρ)) t H':=by
 unfold zs at vt
 cases hf:P.funcs[f]? with
 | none=>simp[hf]at vt
 | some fn =>
  simp only[hf]at vt
  cases hp:fn.params[0]? with
  | none=>simp[hp]at vt
  | some tS =>
   simp only[hp]at vt
   cases ht:P.underlying tS with
   | none=>simp[ht]at vt
   | some d =>
    cases d<;>simp only[ht]at vt<;>(try (cases vt;done))
    rename_i e
    cases hi:P.info? e with
    | none=>simp[hi]at vt
    | some ei =>
     simp only[hi]at vt
     split at vt
     ·rename_i hc
      simp only[Option.some.injEq]at vt;subst vt
      simp only[Bool.and_eq_true,KU,Option.isNone_iff_eq_none,beq_iff_eq,bne_iff_ne,ne_eq]at hc
      obtain⟨⟨⟨⟨c1,c2⟩,c3⟩,c4⟩,⟨c5,c6⟩,c7⟩:=hc
      have QD:Extern.find fn=some (Extern.SlicesOverlaps.overlaps fn.params fn.resultTypes):=by
       have r1:Extern.allGenericRows.lookup "slices.overlaps"=none:=by kernel_rfl
       have r2:Extern.allTypedRows.lookup "slices.overlaps"=some Extern.SlicesOverlaps.overlaps:=by kernel_rfl
       unfold Extern.find
       simp only[c4,c5,c6,c7,r1,r2,Option.map_none,Option.map_some]
       rfl
      cases ha:args.toList.map ρ with
      | nil=>rw[ha]at hY;have:=hY.1;simp at this
      | cons vx vs =>
       cases vs with
       | nil=>rw[ha]at hY;have:=hY.1;simp at this
       | cons vy vs =>
        cases vs with
        | cons _ _=>rw[ha]at hY;have:=hY.1;simp at this
        | nil =>
         rw[ha]at hY
         have hx:VR g w (x.ev R) vx:=hY.head
         have hy:VR g w (y.ev R) vy:=hY.tail.head
         have ni:args.map ρ=#[vx,vy]:=by apply Array.ext';simp[ha]
         obtain⟨v,w',g',h1,h2,h3,h4,h5⟩:=IC (results:=fn.resultTypes) hp ht hi h hx hy he
         refine⟨.value v,v,w',g',?_,.inl rfl,h2,h3,h4,h5⟩
         rw[ni,run_callFunc_extern hf (by simpa using c1) (by simp[c2]) c3 QD,h1]
         rfl
     ·cases vt
theorem vX {bi:Builtin}{iw:List TypeId}{rt:TypeId}{cs:Array Bool}{mu:Bool}{as:List X}{vs:List Value}{b:Bo}(hc:jh P mu bi iw as=some b)(h:SR w0 g H w)(hv:bD g w (as.map (X.ev R)) vs)(he:ak R H b=some (t,H')) :
  IL P w0 g H w (builtin bi iw.toArray rt cs vs.toArray) t H':=by
 have two:∀(x y:X),as=[x,y]→∃vx vy,vs=[vx,vy]∧VR g w (x.ev R) vx∧VR g w (y.ev R) vy:=by
  rintro x y rfl
  cases vs with
  | nil=>have:=hv.1;simp at this
  | cons vx vs =>
   cases vs with
   | nil=>have:=hv.1;simp at this
   | cons vy vs =>
    cases vs with
    | cons _ _=>have:=hv.1;simp at this
    | nil=>exact⟨vx,vy,rfl,hv.head,hv.tail.head⟩
 unfold jh at hc
 split at hc
 ·cases hz:vV P iw as with
  | some b'=>rw[hz]at hc;simp only[Option.some.injEq]at hc;subst hc;exact(IQ hz h hv he).mS
  | none=>rw[hz]at hc;exact(x7 hc h hv he).mS
 ·-- cap
  rename_i ty x
  cases vs with
  | nil=>have:=hv.1;simp at this
  | cons vx vs =>
   cases vs with
   | cons _ _=>have:=hv.1;simp at this
   | nil =>
    have hx:VR g w (x.ev R) vx:=hv.head
    cases hu:P.underlying ty with
    | none=>simp[hu]at hc
    | some d =>
     cases d<;>simp only[hu]at hc<;>(try (cases hc;done))
     simp only[Option.some.injEq]at hc;subst hc
     simp only[ak]at he
     generalize x.ev R=tx at hx he
     cases tx<;>simp only[reduceCtorEq,Option.some.injEq,Prod.mk.injEq]at he
     obtain⟨rfl,rfl⟩:=he
     exact(Iw hu h hx).mS
 ·-- copy
  rename_i dT sT x y
  obtain⟨vx,vy,rfl,hx,hy⟩:=two x y rfl
  cases hu:P.underlying dT with
  | none=>simp[hu]at hc
  | some d =>
   cases d<;>simp only[hu]at hc<;>(try (cases hc;done))
   rename_i e
   cases hi:P.info? e with
   | none=>simp[hi]at hc
   | some ei =>
    simp only[hi,Option.map_some,Option.some.injEq]at hc;subst hc
    simp only[ak]at he
    exact(Ix hu hi h hx hy he).mS
 ·-- len
  rename_i ty x
  cases vs with
  | nil=>have:=hv.1;simp at this
  | cons vx vs =>
   cases vs with
   | cons _ _=>have:=hv.1;simp at this
   | nil =>
    have hx:VR g w (x.ev R) vx:=hv.head
    cases hu:P.underlying ty with
    | none=>simp[hu]at hc
    | some d =>
     have hl:∃k,VU k d=true∧b=.len k x:=by
      cases d<;>simp[hu]at hc
      ·exact⟨.str,rfl,hc.symm⟩
      ·exact⟨.sl,rfl,hc.symm⟩
      ·exact⟨.map,rfl,hc.symm⟩
     obtain⟨k,hk,rfl⟩:=hl
     simp only[ak,Option.map_eq_some_iff,Prod.mk.injEq]at he
     obtain⟨n,h1,rfl,rfl⟩:=he
     exact(HS hu hk h hx h1).mS
 ·-- clear
  rename_i ty x
  cases vs with
  | nil=>have:=hv.1;simp at this
  | cons vx vs =>
   cases vs with
   | cons _ _=>have:=hv.1;simp at this
   | nil =>
    have hx:VR g w (x.ev R) vx:=hv.head
    cases hu:P.underlying ty with
    | none=>simp[hu]at hc
    | some d =>
     cases d<;>simp only[hu]at hc<;>(try (cases hc;done))
     rename_i e
     cases hi:P.info? e with
     | none=>simp[hi]at hc
     | some ei =>
      cases hz:zeroOf P e with
      | none=>simp[hi,hz]at hc
      | some z =>
       simp only[hi,hz,Option.some.injEq]at hc;subst hc
       obtain⟨i,zv,k1,k2,k3⟩:=fG hz
       rw[hi]at k1;cases k1
       simp only[ak]at he
       generalize x.ev R=tx at hx he
       cases tx<;>(try (simp only[reduceCtorEq]at he;done))
       rename_i bb off len n'
       simp only at he
       cases hb:H[bb]? with
       | none=>simp[hb]at he
       | some y =>
        cases y<;>simp only[hb]at he<;>(try (cases he;done))
        rename_i cs'
        split at he
        ·rename_i uk
         obtain⟨rfl,vS,hle⟩:=uk
         simp only[Option.some.injEq,Prod.mk.injEq]at he
         obtain⟨rfl,rfl⟩:=he
         exact(IK hu hi k2 k3 h hx hb vS hle).mS
        ·cases he
 ·rename_i x y
  obtain⟨vx,vy,rfl,hx,hy⟩:=two x y rfl
  simp at hc;subst hc
  simp only[ak]at he
  generalize x.ev R=tx at hx he
  generalize y.ev R=MF at hy he
  cases tx<;>cases MF<;>simp only[reduceCtorEq,Option.some.injEq,Prod.mk.injEq]at he
  obtain⟨rfl,rfl⟩:=he
  exact(Mm h hx hy).mS
 ·rename_i x y
  obtain⟨vx,vy,rfl,hx,hy⟩:=two x y rfl
  simp at hc;subst hc
  simp only[ak]at he
  generalize x.ev R=tx at hx he
  generalize y.ev R=MF at hy he
  cases tx<;>cases MF<;>simp only[reduceCtorEq,Option.some.injEq,Prod.mk.injEq]at he
  obtain⟨rfl,rfl⟩:=he
  exact(Mn h hx hy).mS
 ·-- delete
  rename_i ty xt m k
  obtain⟨vm,vk,rfl,hm,hk⟩:=two m k rfl
  cases hu:P.underlying ty with
  | none=>simp[hu]at hc
  | some d =>
   cases d<;>simp only[hu]at hc<;>(try (cases hc;done))
   rename_i key elem
   cases jy:uo P key with
   | none=>simp[jy]at hc
   | some kt =>
    simp only[jy]at hc
    split at hc
    ·rename_i pL
     simp at hc;subst hc
     simp only[ak]at he
     generalize m.ev R=tm at hm he
     cases tm<;>(try simp only[reduceCtorEq]at he)
     rename_i bb
     split at he
     ·rename_i xS
      cases hb:H[bb]? with
      | none=>simp[hb]at he
      | some z =>
       cases z<;>simp only[hb]at he<;>(try (cases he;done))
       rename_i es
       cases hr:cZ (k.ev R) es with
       | none=>simp[hr]at he
       | some r =>
        have:=Ij (rt:=rt) (xt:=xt) hu pL h hm hk xS hb hr
        cases r with
        | none=>simp only[hr,Option.some.injEq,Prod.mk.injEq]at he;obtain⟨rfl,rfl⟩:=he;exact this.mS
        | some i=>simp only[hr,Option.some.injEq,Prod.mk.injEq]at he;obtain⟨rfl,rfl⟩:=he;exact this.mS
     ·cases he
    ·cases hc
 ·cases hc
theorem zw {ty:TypeId}{m k:X}{e:Nat}{kt:KT}{z:T}(h:x0 P ty m k=some (e,kt,z)):∃key ei zv,P.underlying ty=some (.map key e)∧P.info? e=some ei∧ei.zero=some zv∧mj zv=some z∧mm P key kt=true:=by
 unfold x0 at h
 cases hu:P.underlying ty with
 | none=>simp[hu]at h
 | some d =>
  cases d<;>simp only[hu]at h<;>(try (cases h;done))
  rename_i key e'
  cases h1:uo P key with
  | none=>simp[h1]at h
  | some kt' =>
   cases h2:P.info? e' with
   | none=>simp[h1,h2]at h
   | some ei =>
    simp only[h1,h2]at h
    cases h3:ei.zero with
    | none=>simp[h3]at h
    | some zv =>
     simp only[h3]at h
     cases h4:mj zv with
     | none=>simp[h4]at h
     | some z' =>
      simp only[h4]at h
      split at h
      ·rename_i pL
       simp at h
       obtain⟨rfl,rfl,rfl⟩:=h
       exact⟨key,ei,zv,rfl,h2,h3,h4,pL⟩
      ·cases h
theorem zx {ty:TypeId}{m k v:X}{vm vk vv:Value}{e:Nat}{kt:KT}{z:T}(hc:x0 P ty m k=some (e,kt,z))(h:SR w0 g H w)(hm:VR g w (m.ev R) vm)(hk:VR g w (k.ev R) vk)(hv:VR g w (v.ev R) vv)(he:ak R H (.ze kt m k v)=some (t,H')) :
  IL P w0 g H w (do Instr.mapUpdate ty vm vk vv;pure Next.skip) t H':=by
 obtain⟨key,ei,zv,hu,hi,hz,pQ,pL⟩:=zw hc
 simp only[ak]at he
 generalize m.ev R=tm at hm he
 cases tm<;>(try simp only[reduceCtorEq]at he)
 rename_i bb
 split at he
 ·rename_i xS
  cases hb:H[bb]? with
  | none=>simp[hb]at he
  | some y =>
   cases y<;>simp only[hb]at he<;>(try (cases he;done))
   rename_i es
   cases hr:cZ (k.ev R) es with
   | none=>simp[hr]at he
   | some r =>
    obtain⟨w',g',h1,h2,h3,h4⟩:=Ii hu pL h hm hk hv xS hb hr
    cases r with
    | none=>simp only[hr,Option.some.injEq,Prod.mk.injEq]at he;obtain⟨rfl,rfl⟩:=he;exact⟨.skip,undef,w',g',by simp[h1],.inr ⟨rfl,rfl⟩,h2,h3,gP,h4⟩
    | some i=>simp only[hr,Option.some.injEq,Prod.mk.injEq]at he;obtain⟨rfl,rfl⟩:=he;exact⟨.skip,undef,w',g',by simp[h1],.inr ⟨rfl,rfl⟩,h2,h3,gP,h4⟩
 ·cases he
theorem IT {ty:TypeId}{m k:X}{vm vk:Value}{e:Nat}{kt:KT}{z:T}{ok:Bool}(hc:x0 P ty m k=some (e,kt,z))(h:SR w0 g H w)(hm:VR g w (m.ev R) vm)(hk:VR g w (k.ev R) vk)(he:ak R H (.mW kt z ok m k)=some (t,H')) :
  b6 P w0 g H w (Instr.lookup ty vm vk ok) t H':=by
 obtain⟨key,ei,zv,hu,hi,hz,pQ,pL⟩:=zw hc
 simp only[ak]at he
 split at he
 ·rename_i xS
  cases hJ:gn H (m.ev R)with
  | none=>simp[hJ]at he
  | some es =>
   simp only[hJ]at he
   cases hr:cZ (k.ev R) es with
   | none=>simp[hr]at he
   | some r =>
    cases r with
    | none =>
     simp only[hr,Option.some.injEq,Prod.mk.injEq]at he
     obtain⟨rfl,rfl⟩:=he
     exact zn hu hi hz pQ pL h hm hk xS hJ hr rfl
    | some i =>
     simp only[hr]at he
     cases hx:es[i]? with
     | none=>simp[hx]at he
     | some x =>
      simp only[hx,Option.some.injEq,Prod.mk.injEq]at he
      obtain⟨rfl,rfl⟩:=he
      exact zn hu hi hz pQ pL h hm hk xS hJ hr (by simp[hx])
 ·cases he
theorem Bp {ty:TypeId}{ps:List (Nat×X)}{pv:List (Nat×Value)}{b:Bo}(hc:ov P ty ps=some b)(h:SR w0 g H w)(hv:PV g w R ps pv)(he:ak R H b=some (t,H')):b6 P w0 g H w (Instr.build ty pv.toArray) t H':=by
 unfold ov at hc
 cases hu:P.underlying ty with
 | none=>simp[hu]at hc
 | some d =>
  cases hz:zeroOf P ty with
  | none=>cases d<;>simp[hu,hz]at hc
  | some z =>
   cases d<;>simp only[hu,hz]at hc<;>(try (cases hc;done))
   rename_i fs
   split at hc
   ·rename_i cD
    simp only[Bool.and_eq_true]at cD
    simp only[Option.some.injEq]at hc;subst hc
    obtain⟨i,zv,h1,h2,h3⟩:=fG hz
    simp only[ak]at he
    split at he
    ·rename_i l hl
     simp only[Option.map_eq_some_iff,Prod.mk.injEq]at he
     obtain⟨cs,h4,rfl,rfl⟩:=he
     refine Bg hu h1 h2 h3 (fun f hf=>?_) (fun p hp=>?_) h hv hl h4
     ·have:=cD.1
      simp only[vW,List.all_eq_true]at this
      exact Option.isSome_iff_exists.1 (this f hf)
     ·have:=cD.2
      simp only[List.all_eq_true,decide_eq_true_eq]at this
      exact this p hp
    ·cases he
   ·cases hc
theorem IU {ty:TypeId}{n:Nat}{ps:List (Nat×X)}{pv:List (Nat×Value)}{b:Bo}{mu:Bool}(hc:Bl P mu ty n ps=some b)(h:SR w0 g H w)(hv:PV g w R ps pv)(he:ak R H b=some (t,H')):b6 P w0 g H w (Instr.buildSlice ty n pv.toArray) t H':=by
 unfold Bl at hc
 cases hu:P.underlying ty with
 | none=>simp[hu]at hc
 | some d =>
  cases d<;>simp only[hu]at hc<;>(try (cases hc;done))
  rename_i e
  cases hi:P.info? e with
  | none=>simp[hi]at hc
  | some ei =>
   cases hz:zeroOf P e with
   | none=>simp[hi,hz]at hc
   | some z =>
    simp only[hi,hz]at hc
    split at hc
    ·rename_i cD
     simp only[Bool.and_eq_true,beq_iff_eq,decide_eq_true_eq]at cD
     simp at hc;subst hc
     obtain⟨i,zv,h1,h2,h3⟩:=fG hz
     rw[hi]at h1;cases h1
     cases mu with
     | false =>
      simp only[Bool.false_eq_true,if_false,ak,Option.map_eq_some_iff,Prod.mk.injEq]at he
      obtain⟨fs,h4,rfl,rfl⟩:=he
      exact Is hu hi h2 h3 cD.1 cD.2 h hv h4
     | true =>
      simp only[if_true,ak,Option.bind_eq_some_iff]at he
      obtain⟨fs,h4,he⟩:=he
      split at he
      ·simp only[Option.some.injEq,Prod.mk.injEq]at he
       obtain⟨rfl,rfl⟩:=he
       exact Iz hu hi h2 h3 cD.1 cD.2 h hv h4
      ·cases he
    ·cases hc
theorem IV {ty:TypeId}{mu:Bool}{l c:X}{vl vc:Value}{b:Bo}(hc:Bm P mu ty l c=some b)(h:SR w0 g H w)(hl:VR g w (l.ev R) vl)(rZ:VR g w (c.ev R) vc)(he:ak R H b=some (t,H')):b6 P w0 g H w (Instr.makeSlice ty vl vc) t H':=by
 unfold Bm at hc
 cases hu:P.underlying ty with
 | none=>simp[hu]at hc
 | some d =>
  cases d<;>simp only[hu]at hc<;>(try (cases hc;done))
  rename_i e
  cases hi:P.info? e with
  | none=>simp[hi]at hc
  | some ei =>
   cases hz:zeroOf P e with
   | none=>simp[hi,hz]at hc
   | some z =>
    simp only[hi,hz]at hc
    split at hc
    ·rename_i cD
     simp only[Bool.and_eq_true,beq_iff_eq,bne_iff_ne]at cD
     simp at hc;subst hc
     obtain⟨i,zv,h1,h2,h3⟩:=fG hz
     rw[hi]at h1;cases h1
     simp only[ak]at he
     cases Hf:cj (l.ev R)with
     | none=>simp[Hf]at he
     | some nl =>
      cases PG:cj (c.ev R)with
      | none=>simp[Hf,PG]at he
      | some nc =>
       simp only[Hf,PG]at he
       split at he
       ·rename_i ig
        refine Iu (mu:=mu) hu hi h2 h3 cD.1 cD.2 h hl rZ Hf PG ig.1 ig.2.1 ig.2.2 ?_
        cases mu with
        | true=>simpa using he
        | false =>
         simp only[Bool.false_eq_true,if_false]at he ⊢
         split at he
         ·rename_i e0;rw[if_pos e0];simpa using he
         ·rename_i e0;rw[if_neg e0];simpa using he
       ·cases he
    ·cases hc
theorem RV.get {xs:List Operand}(h:RV g w R ρ xs){x:Operand}{y:X}(hx:x∈xs)(hc:aK x=some y):VR g w (y.ev R) (ρ x):=h x hx y hc
theorem MI {mu:Bool}{o:Oper}{b:Bo}(hρ:∀f:FuncId,ρ (.func f)=.func (.func f) #[] #[])(hc:bE P mu o.op=some b)(h:SR w0 g H w)(hv:RV g w R ρ o.op.operands.toList)(he:ak R H b=some (t,H')):IL P w0 g H w (execOp ρ o) t H':=by
 obtain⟨dst,op,ty,pos,after,guard⟩:=o
 cases op<;>simp only[bE]at hc<;>(try (cases hc;done))<;>simp only[Op.operands]at hv
 case move x =>
  simp only[Option.map_eq_some_iff]at hc
  obtain⟨y,h1,rfl⟩:=hc
  simp only[ak,Option.some.injEq,Prod.mk.injEq]at he
  obtain⟨rfl,rfl⟩:=he
  exact⟨_,_,w,g,rfl,.inl rfl,.refl _ _,h,hv.get (by simp) h1,.refl _ _⟩
 case assign x =>
  simp only[Option.map_eq_some_iff]at hc
  obtain⟨y,h1,rfl⟩:=hc
  simp only[ak,Option.some.injEq,Prod.mk.injEq]at he
  obtain⟨rfl,rfl⟩:=he
  exact⟨_,_,w,g,rfl,.inl rfl,.refl _ _,h,hv.get (by simp) h1,.refl _ _⟩
 case pick c x y =>
  cases h1:aK c with
  | none=>simp[h1]at hc
  | some c' =>
   cases h2:aK x with
   | none=>simp[h1,h2]at hc
   | some x' =>
    cases h3:aK y with
    | none=>simp[h1,h2,h3]at hc
    | some y' =>
     simp only[h1,h2,h3,Option.some.injEq]at hc
     subst hc
     have vc:=hv.get (by simp) h1
     have vx:=hv.get (by simp) h2
     have vy:=hv.get (by simp) h3
     simp only[ak]at he
     generalize c'.ev R=tc at vc he
     cases tc<;>(try simp only[reduceCtorEq]at he)
     simp only[Option.some.injEq,Prod.mk.injEq]at he
     obtain⟨rfl,rfl⟩:=he
     obtain⟨v,w',g',k1,k2⟩:=CV (P:=P) h vc vx vy
     refine⟨.value v,v,w',g',?_,.inl rfl,k2⟩
     simp only[execOp,Sem.run_bind,Sem.run_pure]at k1 ⊢
     generalize (asBool (ρ c)).run P w=r at k1 ⊢
     cases r<;>simp_all
 case alloc sQ =>
  simp only[Option.map_eq_some_iff]at hc
  obtain⟨z,h1,rfl⟩:=hc
  obtain⟨i,zv,h2,h3,h4⟩:=fG h1
  simp only[ak,Option.some.injEq,Prod.mk.injEq]at he
  obtain⟨rfl,rfl⟩:=he
  exact(Be h2 h3 h4 h).mS
 case box sQ x =>
  simp only[Option.map_eq_some_iff]at hc
  obtain⟨y,h1,rfl⟩:=hc
  simp only[ak,Option.map_eq_some_iff,Prod.mk.injEq]at he
  obtain⟨cs,h2,rfl,rfl⟩:=he
  exact(Ig h (hv.get (by simp) h1) h2).mS
 case build sQ ps =>
  simp only[Option.bind_eq_some_iff]at hc
  obtain⟨qs,h1,h2⟩:=hc
  have hp:=oA (ρ:=ρ) _ _ h1 (by simpa using hv)
  have:=(Bp h2 h hp he).mS
  have e:(ps.map fun x=>(x.1,ρ x.2))=(ps.toList.map fun p=>(p.1,ρ p.2)).toArray:=by apply Array.ext';simp
  simp only[execOp]
  rw[e];exact this
 case buildSlice sQ n ps =>
  simp only[Option.bind_eq_some_iff]at hc
  obtain⟨qs,h1,h2⟩:=hc
  have hp:=oA (ρ:=ρ) _ _ h1 (by simpa using hv)
  have:=(IU h2 h hp he).mS
  have e:(ps.map fun x=>(x.1,ρ x.2))=(ps.toList.map fun p=>(p.1,ρ p.2)).toArray:=by apply Array.ext';simp
  simp only[execOp]
  rw[e];exact this
 case insert sQ m k v =>
  cases h1:aK m with
  | none=>simp[h1]at hc
  | some m' =>
   cases h2:aK k with
   | none=>simp[h1,h2]at hc
   | some k' =>
    cases h3:aK v with
    | none=>simp[h1,h2,h3]at hc
    | some v' =>
     simp only[h1,h2,h3,Option.map_eq_some_iff]at hc
     obtain⟨⟨e,kt,z⟩,h4,rfl⟩:=hc
     exact zx h4 h (hv.get (by simp) h1) (hv.get (by simp) h2) (hv.get (by simp) h3) he
 case mapUpdate sQ m k v =>
  cases h1:aK m with
  | none=>simp[h1]at hc
  | some m' =>
   cases h2:aK k with
   | none=>simp[h1,h2]at hc
   | some k' =>
    cases h3:aK v with
    | none=>simp[h1,h2,h3]at hc
    | some v' =>
     simp only[h1,h2,h3,Option.map_eq_some_iff]at hc
     obtain⟨⟨e,kt,z⟩,h4,rfl⟩:=hc
     exact zx h4 h (hv.get (by simp) h1) (hv.get (by simp) h2) (hv.get (by simp) h3) he
 case load sQ x =>
  simp only[Option.bind_eq_some_iff]at hc
  obtain⟨y,h1,h2⟩:=hc
  exact Dg h2 h (hv.get (by simp) h1) he
 case store sQ a v =>
  cases h1:P.info? sQ with
  | none=>simp[h1]at hc
  | some i =>
   cases h2:aK a with
   | none=>simp[h1,h2]at hc
   | some a' =>
    cases h3:aK v with
    | none=>simp[h1,h2,h3]at hc
    | some v' =>
     simp only[h1,h2,h3,Option.some.injEq]at hc
     subst hc
     simp only[ak]at he
     cases h4:(v'.ev R).cells? with
     | none=>simp[h4]at he
     | some vs =>
      simp only[h4]at he
      split at he
      ·rename_i hn
       simp only[Option.map_eq_some_iff,Prod.mk.injEq]at he
       obtain⟨H1,h5,rfl,rfl⟩:=he
       obtain⟨w',g',k1,k2,k3,k4⟩:=Mr (P:=P) h1 h (hv.get (by simp) h2) (hv.get (by simp) h3) h4 hn h5
       exact⟨.skip,undef,w',g',by simp[execOp,k1],.inr ⟨rfl,rfl⟩,k2,k3,gP,k4⟩
      ·cases he
 case nilCheck x =>
  simp only[Option.map_eq_some_iff]at hc
  obtain⟨y,h1,rfl⟩:=hc
  have vx:=hv.get (by simp) h1
  simp only[ak]at he
  have key:t=y.ev R∧H'=H∧∃v,(execOp ρ ⟨dst,.nilCheck x,ty,pos,after,guard⟩).run P w=.ok (.value v) w∧v=ρ x:=by
   simp only[execOp]
   generalize y.ev R=tx at vx he
   generalize ρ x=vv at vx
   cases vx<;>simp only[reduceCtorEq,Option.some.injEq,Prod.mk.injEq]at he<;>obtain⟨rfl,rfl⟩:=he<;>exact⟨rfl,rfl,_,rfl,rfl⟩
  obtain⟨rfl,rfl,v,k1,rfl⟩:=key
  exact⟨_,_,w,g,k1,.inl rfl,.refl _ _,h,vx,.refl _ _⟩
 case binOp op sQ x y yt =>
  cases h1:aK x with
  | none=>simp[h1]at hc
  | some x' =>
   cases h2:aK y with
   | none=>simp[h1,h2]at hc
   | some y' =>
    simp only[h1,h2]at hc
    exact IM hc h (hv.get (by simp) h1) (hv.get (by simp) h2) he
 case unOp op sQ x =>
  simp only[Option.map_eq_some_iff]at hc
  obtain⟨y,h1,rfl⟩:=hc
  simp only[ak,Option.map_eq_some_iff,Prod.mk.injEq]at he
  obtain⟨t',h2,rfl,rfl⟩:=he
  exact(Mh h (hv.get (by simp) h1) h2).mS
 case convert s d x =>
  simp only[Option.bind_eq_some_iff]at hc
  obtain⟨y,h1,h2⟩:=hc
  exact Dh h2 h (hv.get (by simp) h1) he
 case makeFunc fn first ke =>
  cases fn<;>simp only[bE]at hc<;>(try (cases hc;done))
  rename_i f
  split at hc
  ·rename_i h0
   simp only[Option.map_eq_some_iff]at hc
   obtain⟨ys,h1,rfl⟩:=hc
   have:first=#[]:=Array.eq_empty_of_size_eq_zero h0
   subst this
   simp only[ak,Option.some.injEq,Prod.mk.injEq]at he
   obtain⟨rfl,rfl⟩:=he
   have hY:=fF (ρ:=ρ) _ _ h1 (fun x hx=>hv x (by simpa using hx))
   have:=(Iv (P:=P) (f:=f) h hY).mS
   have e:ke.map ρ=(ke.toList.map ρ).toArray:=by apply Array.ext';simp
   have e0:(#[]:Array Operand).map ρ=#[]:=by simp
   simp only[execOp]
   rw[e,e0];exact this
  ·cases hc
 case range sQ m =>
  cases hu:P.underlying sQ with
  | none=>simp[hu]at hc
  | some d =>
   cases d<;>simp only[hu]at hc<;>(try (cases hc;done))
   simp only[Option.map_eq_some_iff]at hc
   obtain⟨y,h1,rfl⟩:=hc
   have vm:=hv.get (by simp) h1
   simp only[ak]at he
   generalize y.ev R=tm at vm he
   cases tm<;>(try (simp only[reduceCtorEq]at he;done))
   rename_i bb
   simp only[Option.map_eq_some_iff,Prod.mk.injEq]at he
   obtain⟨es,h2,rfl,rfl⟩:=he
   exact(IG hu h vm h2).mS
 case next it str =>
  cases str<;>simp only[bE]at hc<;>(try (cases hc;done))
  simp only[Option.map_eq_some_iff]at hc
  obtain⟨y,h1,rfl⟩:=hc
  simp[ak]at he
 case entry it =>
  simp only[Option.map_eq_some_iff]at hc
  obtain⟨y,h1,rfl⟩:=hc
  have vm:=hv.get (by simp) h1
  simp only[ak]at he
  generalize y.ev R=tm at vm he
  cases tm<;>(try (simp only[reduceCtorEq]at he;done))
  rename_i bi off
  cases off with
  | succ _=>simp at he
  | zero =>
   simp only at he
   cases hi:H[bi]? with
   | none=>simp[hi]at he
   | some yi =>
    cases yi<;>simp only[hi]at he<;>(try (cases he;done))
    rename_i bb
    cases hb:H[bb]? with
    | none=>simp[hb]at he
    | some yb =>
     cases yb<;>simp only[hb]at he<;>(try (cases he;done))
     rename_i es ix Qb cur
     cases cur with
     | none=>simp at he
     | some c =>
      simp only at he
      split at he
      ·rename_i e;subst e
       simp only[Option.map_eq_some_iff,Prod.mk.injEq]at he
       obtain⟨e,h2,rfl,rfl⟩:=he
       exact(IJ h vm hb h2).mS
      ·cases he
 case makeMap sQ r =>
  cases r with
  | some _=>simp[bE]at hc
  | none =>
   simp only[bE,Option.some.injEq]at hc
   subst hc
   simp only[ak,Option.some.injEq,Prod.mk.injEq]at he
   obtain⟨rfl,rfl⟩:=he
   exact(Ih h).mS
 case makeSlice sQ l c =>
  cases h1:aK l with
  | none=>simp[h1]at hc
  | some l' =>
   cases h2:aK c with
   | none=>simp[h1,h2]at hc
   | some c' =>
    simp only[h1,h2]at hc
    exact(IV hc h (hv.get (by simp) h1) (hv.get (by simp) h2) he).mS
 case slice sQ x lo hi mx =>
  cases h1:aK x with
  | none=>simp[h1]at hc
  | some x' =>
   cases h2:jz lo with
   | none=>simp[h1,h2]at hc
   | some lo' =>
    cases h3:jz hi with
    | none=>simp[h1,h2,h3]at hc
    | some jU =>
     cases h4:jz mx with
     | none=>simp[h1,h2,h3,h4]at hc
     | some mx' =>
      simp only[h1,h2,h3,h4]at hc
      exact Bn hc h (hv.get (by simp) h1) (oC h2 (fun z hz=>hv z (by simp;simp at hz;simp[hz]))) (oC h3 (fun z hz=>hv z (by simp;simp at hz;simp[hz]))) (oC h4 (fun z hz=>hv z (by simp;simp at hz;simp[hz]))) he
 case fieldAddr sQ x f =>
  simp only[Option.bind_eq_some_iff]at hc
  obtain⟨y,h1,h2⟩:=hc
  exact(sO h2 h (hv.get (by simp) h1) he).mS
 case field sQ x f =>
  simp only[Option.bind_eq_some_iff]at hc
  obtain⟨y,h1,h2⟩:=hc
  exact(sO h2 h (hv.get (by simp) h1) he).mS
 case indexAddr sQ x i =>
  cases h1:aK x with
  | none=>simp[h1]at hc
  | some x' =>
   cases h2:aK i with
   | none=>simp[h1,h2]at hc
   | some i' =>
    simp only[h1,h2]at hc
    exact(zt hc h (hv.get (by simp) h1) (hv.get (by simp) h2) he).mS
 case index sQ x i =>
  cases h1:aK x with
  | none=>simp[h1]at hc
  | some x' =>
   cases h2:aK i with
   | none=>simp[h1,h2]at hc
   | some i' =>
    simp only[h1,h2]at hc
    exact(zt hc h (hv.get (by simp) h1) (hv.get (by simp) h2) he).mS
 case lookup sQ m k ok =>
  cases h1:aK m with
  | none=>simp[h1]at hc
  | some m' =>
   cases h2:aK k with
   | none=>simp[h1,h2]at hc
   | some k' =>
    simp only[h1,h2,Option.map_eq_some_iff]at hc
    obtain⟨⟨e,kt,z⟩,h4,rfl⟩:=hc
    exact(IT h4 h (hv.get (by simp) h1) (hv.get (by simp) h2) he).mS
 case extract x i =>
  simp only[Option.map_eq_some_iff]at hc
  obtain⟨y,h1,rfl⟩:=hc
  have vx:=hv.get (by simp) h1
  simp only[ak]at he
  generalize y.ev R=tx at vx he
  cases tx<;>(try simp only[reduceCtorEq]at he)
  simp only[Option.map_eq_some_iff,Prod.mk.injEq]at he
  obtain⟨t',h2,rfl,rfl⟩:=he
  exact(Ic h vx h2).mS
 case call c =>
  obtain⟨callee,args,iw⟩:=c
  cases callee
  case value cv =>
   cases cv<;>simp only[bE]at hc<;>(try (cases hc;done))
   rename_i f
   split at hc
   ·rename_i n x y vt h1
    simp only[Option.some.injEq]at hc;subst hc
    have hY:=fF (ρ:=ρ) _ _ h1 (fun x hx=>hv x (by simp[Call.operands];exact .inr (by simpa using hx)))
    simp only[ak]at he
    have hd:=IS vt h hY he
    simpa[execOp,resolve,hρ,Deferred.ofValue,invoke]using hd
   ·cases hc
  all_goals simp only[bE]at hc<;>(try (cases hc;done))
  rename_i bi
  simp only[Option.bind_eq_some_iff]at hc
  obtain⟨as,h1,h2⟩:=hc
  have hY:=fF (ρ:=ρ) _ _ h1 (fun x hx=>hv x (by simpa[Call.operands]using hx))
  have e:args.map ρ=(args.toList.map ρ).toArray:=by apply Array.ext';simp
  have e2:iw=iw.toList.toArray:=by simp
  have:=vX (rt:=ty) (cs:=args.map fun | .const _=>true|_=>false) h2 h hY he
  simp only[execOp,resolve,pure_bind,invoke]
  rw[e,e2]
  exact this
end
section
variable {P:Program} {w0 w:World} {g:Ctx} {H:af}
theorem SR.uq {b r o q:Nat}{x x':Obj}{y y':B}(h:SR w0 g H w)(hb:H[b]?=some y)(hφ:g.φ b=some (r,o,q))(h1:g.κ r 0=.mut b)(hr:w.heap[r]?=some x)(hs:fg x=true)(fb:fg x'=true)
  (pL:∀w',Le g w g w'→w'.heap[r]?=some x'→zj g w' b y') :
  Le g w g (w.putObj r x')∧SR w0 g (H.set b y') (w.putObj r x')∧Fr g H g (H.set b y'):=by
 have jV:b<H.length:=(List.getElem?_eq_some_iff.1 hb).1
 have tr:Tr w (w.putObj r x') gq (fun r'=>r'=r):=Tr.xU w r hs fb hr
 have le:Le g w g (w.putObj r x'):=Le.gM tr (fun _ _ h=>h) (fun _ _ h=>h) (fun _ _ _ h=>h) (fun _ _ hs=>hs.elim)
 refine⟨le,h.step (fun b'=>b'=b) tr le (fun _ _ hs=>hs.elim) (fun r' hm=>⟨b,by rw[hm];exact h1,rfl⟩) (fun r' j n5=>h.fresh r' j (by simpa[World.putObj]using n5)) (fun b' x hx=>by rw[List.length_set];exact h.rV b' x hx)
  (fun t e x hx=>by rw[List.length_set];exact h.iP t e x hx) (fun _ _ _=>rfl) (fun _ _ _ _=>⟨id,id⟩) (fun _ _ _ _=>rfl) (fun b' x hx=>?_),by simp,fun b' x a _ d=>⟨fj a (by rintro rfl;rw[hφ]at d;cases d),d⟩⟩
 rcases ej jV hx with⟨rfl,rfl⟩|⟨bF,je⟩
 ·exact .inr (pL _ le (World.putObj_heap_same (Array.getElem?_eq_some_iff.1 hr).1))
 ·exact .inl ⟨bF,je⟩
theorem SR.Di {x:Obj}{y:B}(h:SR w0 g H w)(V8:fg x=true)
  (pL:∀g' w',Le g w g' w'→g'.κ w.heap.size 0=.mut H.length→g'.φ H.length=some (w.heap.size,0,0)→w'.heap[w.heap.size]?=some x→zj g' w' H.length y) :
  ∃g',Le g w g' (w.alloc x)∧SR w0 g' (H++[y]) (w.alloc x)∧Fr g H g' (H++[y])∧g'.φ H.length=some (w.heap.size,0,0):=by
 have vP:=Tr.alloc w x (.inl V8)
 have bF:∀r j ow,g.κ r j=ow→ow≠.free→r≠w.heap.size:=by rintro r j ow e hn rfl;exact hn (e▸h.fresh _ j (Nat.le_refl _))
 have V9:=h.Ie (b:=H.length) (Nat.le_refl _)
 have le:Le g w ((g.row w.heap.size fun _=>.mut H.length).at H.length (w.heap.size,0,0)) (w.alloc x):=Le.gM vP
  (fun b' x hx=>by simp only[Ctx.at,Ctx.row];split;rename_i e;subst e;rw[V9]at hx;simp at hx;exact hx)
  (fun r o hk=>by simp only[Ctx.row,Ctx.at];rw[if_neg (bF r o _ hk (by simp))];exact hk) (fun _ _ _ h=>h) (fun _ _ hs=>hs.elim)
 refine⟨_,le,?_,⟨by simp,fun b x a _ d=>⟨iA a,?_⟩⟩,by simp[Ctx.at]⟩
 ·refine h.step (fun b'=>b'=H.length) vP le (fun _ _ hs=>hs.elim) (fun _ hm=>hm.elim) (fun r o hr=>?_) (fun b' x hx=>?_) (fun t e x hx=>by have:=h.iP t e x hx;simp;omega) (fun b' _ iW=>?_) (fun r j b' iW=>?_) (fun _ _ _ _=>rfl) (fun b' x hx=>?_)
  ·simp at hr
   simp only[Ctx.row,Ctx.at];rw[if_neg (by omega)];exact h.fresh r o (by omega)
  ·simp only[Ctx.at,Ctx.row]at hx
   split at hx
   ·rename_i e;subst e;simp
   ·have:=h.rV b' x hx;simp;omega
  ·simp only[Ctx.at,Ctx.row];rw[if_neg iW]
  ·constructor<;>intro e<;>simp only[Ctx.row,Ctx.at]<;>rw[if_neg (bF r j _ e (by simp))]<;>exact e
  ·by_cases e:b'=H.length
   ·subst e
    rw[fh]at hx;cases hx
    exact .inr (pL _ _ le (by simp[Ctx.row,Ctx.at]) (by simp[Ctx.at]) (World.alloc_heap_new w _))
   ·exact .inl ⟨e,cT e hx⟩
 ·have:=(List.getElem?_eq_some_iff.1 a).1
  simp only[Ctx.at,Ctx.row];rw[if_neg (by omega)];exact d
theorem SR.freeze {b:Nat}{cs:List T}(h:SR w0 g H w)(hb:H[b]?=some (.cells cs))(hφ:∃x,g.φ b=some x) :
  ∃g',Le g w g' w∧SR w0 g' (H.set b .dead) w∧Fr g H g' (H.set b .dead)∧∀t v,VR g w t v→VR g' w (xN b cs t) v:=by
 let g':Ctx:={ g with κ:=fun r o=>if g.κ r o=.mut b then .lQ else g.κ r o }
 have le:Le g w g' w:=⟨fun _ _ h=>h,fun r o e=>by simp only[g'];rw[e];simp,fun _ _ _ h=>h,fun _ _ _ _ h=>h,rfl⟩
 have jV:b<H.length:=(List.getElem?_eq_some_iff.1 hb).1
 have tr:Tr w w (fun _ _=>False) (fun _=>False):=⟨Nat.le_refl _,fun _ _ _ _=>rfl,fun _ _ _=>rfl,fun _ _ _ h=>h,fun _ _ _ _ h=>h,fun _ _ _ _=>rfl,fun r j hr=>dp hr,rfl,rfl⟩
 have sr:SR w0 g' (H.set b .dead) w:=by
  refine h.step (fun b'=>b'=b) tr le (fun _ _ h=>h.elim) (fun _ h=>h.elim) (fun r o hr=>?_) (fun b' x hx=>?_) (fun t e x hx=>?_) (fun _ _ _=>rfl) (fun r j b' bF=>⟨fun e=>?_,fun e=>?_⟩) (fun _ _ _ _=>rfl) (fun b' x hx=>?_)
  ·simp only[g'];rw[h.fresh r o hr];simp
  ·rw[List.length_set];exact h.rV b' x hx
  ·rw[List.length_set];exact h.iP t e x hx
  ·simp only[g'];rw[e,if_neg (by simpa using bF)]
  ·simp only[g'];rw[e,if_neg (by simp)]
  ·rcases ej jV hx with⟨rfl,rfl⟩|⟨bF,je⟩
   ·exact .inr trivial
   ·exact .inl ⟨bF,je⟩
 have one:∀t v,VR g w t v→VR g' w (vG b cs t) v:=by
  intro t v hv
  cases t with
  | ay b' off len n =>
   simp only[vG]
   split
   ·rename_i hc
    obtain⟨rfl,hle⟩:=hc
    cases hv with
    | @ay _ _ _ _ r o q cap hp hc hq =>
     obtain⟨c1,c2,c3⟩:=h.dP _ _ hb r o q hp
     have hlen:(rU cs off len n).length=len:=by simp[rU]
     have Wd:∀(i j:Nat) (c:List T) (t:T),(rU cs off len n)[i]?=some c→c[j]?=some t→j<n∧i<len∧cs[off+i*n+j]?=some t:=by
      intro i j c t hi hj
      have kC:i<len:=by have:=(List.getElem?_eq_some_iff.1 hi).1;rw[hlen]at this;exact this
      simp only[rU,List.getElem?_map,List.getElem?_range kC,Option.map_some,Option.some.injEq]at hi
      subst hi
      rw[List.getElem?_take]at hj
      split at hj
      ·rename_i x8
       rw[List.getElem?_drop]at hj
       exact⟨x8,kC,hj⟩
      ·cases hj
     have key:∀(i j:Nat) (c:List T) (t:T),(rU cs off len n)[i]?=some c→c[j]?=some t→t.one=true∧∃v,w.cell? ⟨r,o+off+i*n+j,none⟩=some v∧VR g w t v∧g.κ r (o+off+i*n+j)=.mut b':=by
      intro i j c t hi hj
      obtain⟨h1,h2,h3⟩:=Wd i j c t hi hj
      obtain⟨k1,v,k2,k3⟩:=c3 _ _ h3
      have iB:off+i*n+j<cs.length:=(List.getElem?_eq_some_iff.1 h3).1
      refine⟨k1,v,?_,k3,?_⟩
      ·rw[show o+off+i*n+j=o+(off+i*n+j) by omega];exact k2
      ·exact(c2 (o+off+i*n+j) (by omega) (by omega)).1
     have:=VR.sl (g:=g') (w:=w) (k:=.arg) (es:=rU cs off len n) (r:=r) (o:=o+off) (cap:=cap) (n:=n) (fun i j=>(w.cell? ⟨r,o+off+i*n+j,none⟩).getD undef) trivial (by rw[hlen];exact hc)
      (fun c iv=>by
       obtain⟨i,hi,rfl⟩:=List.mem_map.1 iv
       have hi:=List.mem_range.1 hi
       have:i*n+n≤len*n:=by rw[←Nat.succ_mul];exact Nat.mul_le_mul_right n hi
       rw[List.length_take,List.length_drop];omega)
      (fun i j c t hi hj=>by
       obtain⟨k1,v,k2,_,k4⟩:=key i j c t hi hj
       refine⟨k1,?_,by rw[k2];rfl⟩
       simp only[g'];rw[if_pos k4])
      (fun i j c t hi hj=>by
       obtain⟨_,v,k2,k3,_⟩:=key i j c t hi hj
       rw[k2];exact k3.mono le)
     rw[hlen]at this
     exact this
   ·exact hv.mono le
  | _=>exact hv.mono le
 refine⟨g',le,sr,⟨by simp,fun b' y a _ d=>⟨fj a (by rintro rfl;obtain⟨x,hx⟩:=hφ;rw[hx]at d;cases d),d⟩⟩,fun t v hv=>?_⟩
 cases t with
 | bN vs =>
  cases hv with
  | bN hl h2 =>
   refine .bN (by simpa using hl) fun i t v hi IW=>?_
   rw[List.getElem?_map,Option.map_eq_some_iff]at hi
   obtain⟨t',IX,rfl⟩:=hi
   exact one _ _ (h2 i t' v IX IW)
 | _=>exact one _ _ hv
end
def dw (P:Program)(f:FuncId):Bool :=
 match P.funcs[f]? with
 | some fn=>fn.name != "runtime.NumGoroutine"&&fn.body.isSome
 | none=>false
def bM (P:Program)(mu:Bool):Op→Option KL
 | .call { callee:=.value (.func f),args,.. }=>if dw P f then(fE args.toList).map (.call f)else match zs P f,fE args.toList with
  | some n,some [x,y]=>some (.b (.Pr n x y))
  | _,_=>none
 | .call { callee:=.value (.tmp t),args,.. }=>(fE args.toList).map (.bB (.r t))
 | op=>(bE P mu op).map .b
def sR (ops:Array Oper):Option (Nat×Bool)→Option Gd
 | none=>some none
 | some (j,b)=>match (ops[j]?).bind (·.dst)with
  | some d=>some (some (d,b))
  | none=>none
def dJ:X→List Nat
 | .r t=>[t]
 | .c _=>[]
def oD:Option X→List Nat
 | some x=>dJ x
 | none=>[]
def Dj:Bo→List Nat
 | .aw x | .un _ x | .hU _ x | .CH x | .cvb x | .len _ x | .box x | .ld _ _ x | .oa _ x | .P6 _ _ _ x | .ext _ x | .tV x | .cap x | .L9 x | .pI x | .Ma x | .Ps _ _ x=>dJ x
 | .bin _ x y | .mP _ _ x y | .beq _ x y | .eqs _ _ x y | .st _ x y | .fc _ x y | .L8 _ _ x y | .P7 x y | .UR _ _ _ x y | .mW _ _ _ x y | .del _ x y | .app _ _ _ x y | .VQ _ _ _ x y | .mn x y | .mx x y | .AR _ x y | .Pr _ x y | .P9 _ _ _ x y=>dJ x++dJ y
 | .pick x y z | .ze _ x y z=>dJ x++dJ y++dJ z
 | .build _ ps=>ps.flatMap fun p=>dJ p.2.2
 | .o8 _ _ ps | .Pt _ _ ps=>ps.flatMap fun p=>dJ p.2
 | .P8 x lo hi=>dJ x++oD lo++oD hi
 | .gm _ x lo hi mx=>dJ x++oD lo++oD hi++oD mx
 | .HJ _ l=>l.flatMap dJ
 | .alloc _ | .zd=>[]
def zy:KL→List Nat
 | .b b=>Dj b
 | .call _ as=>as.flatMap dJ
 | .bB f as=>dJ f++as.flatMap dJ
def l3:Gd→List Nat
 | some (t,_)=>[t]
 | none=>[]
def eQ (l:List Operand):List Nat:=l.filterMap fun | .tmp t=>some t|_=>none
def tmpsOf (o:Oper)(op:KL)(g:Gd):List Nat:=eQ o.op.operands.toList++(l3 g++zy op)
def fx (P:Program)(n:Nat)(ops:Array Oper)(mu:Bool)(o:Oper)(AS:List Rd):Option O :=
 match bM P mu o.op,sR ops o.guard with
 | some op,some g=>if (tmpsOf o op g).all (·<n)&&(o.dst.all (·<n))then some ⟨o.dst,op,g,AS⟩else none
 | _,_=>none
def fM (P:Program)(n:Nat)(ops:Array Oper)(mu:Nat→Bool):List Nat→Option (List O)
 | []=>some []
 | i :: is=>match ops[i]? with
  | some o=>match fx P n ops (mu i) o [],fM P n ops mu is with
   | some o,some l=>some (o :: l)
   | _,_=>none
  | none=>none
def cz (o:Oper):List Nat:=(o.after.toList.filter fun e=>Region.binds .any e).map (·.on)
def jA (acc:List Nat)(o:Oper):Nat:=(cz o).foldl (fun s j=>s ||| 2^j ||| acc.getD j 0) 0
def eE:List Oper→List Nat→List Nat
 | [],acc=>acc
 | o :: l,acc=>eE l (acc++[jA acc o])
inductive Kl where|pure|read|make|MJ
 deriving DecidableEq
def qy:Bo→Kl
 | .aw _ | .pick _ _ _ | .bin _ _ _ | .beq _ _ _ | .eqs _ _ _ _ | .un _ _ | .hU _ _ | .build _ _ | .o8 _ _ _ | .oa _ _ | .P6 _ _ _ _ | .fc _ _ _ | .L8 _ _ _ _ | .P7 _ _ | .UR _ _ _ _ _ | .P8 _ _ _ | .gm _ _ _ _ _
 | .HJ _ _ | .ext _ _ | .mn _ _ | .mx _ _ | .tV _=>.pure
 | .mP _ c _ _=>if c=.slice then .MJ else .pure
 | .ld _ _ _ | .mW _ _ _ _ _ | .len _ _ | .CH _=>.read
 | .alloc _ | .zd=>.make
 | _=>.MJ
def Hg (o:O):Kl:=match o.op with
 | .b b=>match o.d with|some _=>qy b|none=>.MJ
 | _=>.MJ
structure It where
 i:Nat
 o:O
 early:Bool
 ts:List Nat
def iQ (b:Nat):List It→List Rd
 | []=>[]
 | y :: l=>match y.early,y.o.d,y.o.op with
  | true,some d,.b op=>if qy op=.read∧b.testBit y.i=false then⟨d,op,y.o.g⟩ :: iQ b l else iQ b l
  | _,_,_=>iQ b l
def x9:Op→Bool
 | .alloc _ | .makeMap _ none=>true
 | _=>false
def Dk (b:Nat)(before:List It)(x:It)(oper:Oper):Bool :=
 ((cz oper).all fun j=>decide (j<x.i)&&before.any (·.i==j)) &&
 (before.all fun y=>y.early||b.testBit y.i) &&
 (before.all fun y=>y.i != x.i) &&
 (match x.o.d with
  | some d=>(before.all fun y=>y.o.d != some d&&(!y.ts.contains d||(!x.early&&b.testBit y.i)))&&!x.ts.contains d
  | none=>true) &&
 (before.all fun y=>match y.o.d with
  | some d=>!x.ts.contains d||b.testBit y.i
  | none=>true) &&
 (!x.early||(Hg x.o != .MJ&&(Hg x.o != .make||x9 oper.op)))
def ya (P:Program)(n:Nat)(ops:Array Oper)(mu:Nat→Bool)(b:Nat)(before:List It)(x:Nat×Bool):Option It :=
 match ops[x.1]? with
 | some o=>match fx P n ops (mu x.1) o (if x.2 then []else iQ b before)with
  | some o'=>let y:It:=⟨x.1,o',x.2,tmpsOf o o'.op o'.g⟩
   if Dk b before y o then some y else none
  | none=>none
 | none=>none
def dK (P:Program)(n:Nat)(ops:Array Oper)(mu:Nat→Bool)(bs:List Nat)(before:List It):List (Nat×Bool)→Option (List It)
 | []=>if (List.range ops.size).all fun i=>before.any (·.i==i)then some []else none
 | x :: l=>match ya P n ops mu (bs.getD x.1 0) before x with
  | some y=>(dK P n ops mu bs (before++[y]) l).map (y :: ·)
  | none=>none
structure An where
 mu:List (Nat×Nat)
 ord:List (Nat×List (Nat×Bool))
def bC (P:Program)(n:Nat)(an:An)(top:Bool):Code→Option C
 | .skip=>some .skip
 | .region id ops false=>(fM P n ops (fun i=>an.mu.contains (id,i)) (List.range ops.size)).map .ops
 | .region id ops true=>match an.ord.find? (·.1==id)with
  | some (_,ord)=>(dK P n ops (fun i=>an.mu.contains (id,i)) (eE ops.toList []) [] ord).map fun jB=>.ops (jB.map (·.o))
  | none=>none
 | .seq a b=>match bC P n an top a,bC P n an top b with
  | some a,some b=>some (.seq a b)
  | _,_=>none
 | .cond c a b=>match aK c,bC P n an top a,bC P n an top b with
  | some x,some a,some b=>if (match c with | .tmp t=>decide (t<n)|_=>true)then some (.cond x a b)else none
  | _,_,_=>none
 | .block id a=>(bC P n an top a).map (.block id)
 | .loop a=>(bC P n an top a).map .loop
 | .exit id=>some (.exit id)
 | .ret=>some .ret
 | .rangeFunc g ps bZ body=>match aK g,bC P n an false bZ,bC P n an false body with
  | some x,some a,some b=>if top&&(dJ x).all (·<n)&&ps.toList.all (·<n)then some (.cI n x ps.toList a b)else none
  | _,_,_=>none
 | _=>none
def nn (P:Program):List ResultVar→Option (List Rs)
 | []=>some []
 | .tmp t :: l=>(nn P l).map (.t t :: ·)
 | .cell a t :: l=>match P.underlying t,P.info? t with
  | some d,some i=>(nn P l).map (.cl a (if dU d then i.size else 1) (dU d) :: ·)
  | _,_=>none
def Bq (n:Nat):Rs→Bool
 | .t r | .cl r _ _=>r<n
def ai (P:Program)(an:An)(f:FuncId):Option Fn :=
 match P.funcs[f]? with
 | some fn=>match fn.body,nn P fn.results.toList with
  | some c,some res=>match bC P fn.ntmps an true c with
   | some c=>if dw P f&&decide (fn.params.size+fn.nfree≤fn.ntmps)&&res.all (Bq fn.ntmps)then some ⟨fn.ntmps,fn.params.size+fn.nfree,res,c⟩else none
   | none=>none
  | _,_=>none
 | none=>none
section
variable {R R':ar} {H:af}
theorem cJ {x:X}(h:∀t∈dJ x,R t=R' t):x.ev R=x.ev R':=by
 cases x with
 | r t=>exact h t (by simp[dJ])
 | c v=>rfl
theorem lr {x:Option X}{d:Nat}(h:∀t∈oD x,R t=R' t):gg R d x=gg R' d x:=by
 cases x with
 | none=>rfl
 | some x=>simp only[gg];rw[cJ h]
theorem nq:∀(ps:List (Nat×Nat×X)),(∀t∈ps.flatMap (fun p=>dJ p.2.2),R t=R' t)→fe R ps=fe R' ps
 | [],_=>rfl
 | (off,n,x) :: ps,h=>by
  simp only[fe]
  rw[cJ (x:=x) (R':=R') (fun t ht=>h t (by simp[ht])),nq ps (fun t ht=>h t (by rw[List.flatMap_cons];exact List.mem_append_right _ ht))]
theorem pc (n:Nat):∀(ps:List (Nat×X)) (es:List (List T)),(∀t∈ps.flatMap (fun p=>dJ p.2),R t=R' t)→ja n es R ps=ja n es R' ps
 | [],_,_=>rfl
 | (i,x) :: ps,es,h=>by
  simp only[ja]
  rw[cJ (x:=x) (R':=R') (fun t ht=>h t (by simp[ht]))]
  split
  ·split
   ·exact pc n ps _ (fun t ht=>h t (by rw[List.flatMap_cons];exact List.mem_append_right _ ht))
   ·rfl
  ·rfl
theorem pd (n:Nat):∀(ps:List (Nat×X)) (es:List (List T)),(∀t∈ps.flatMap (fun p=>dJ p.2),R t=R' t)→jb n es R ps=jb n es R' ps
 | [],_,_=>rfl
 | (i,x) :: ps,es,h=>by
  simp only[jb]
  rw[cJ (x:=x) (R':=R') (fun t ht=>h t (by simp[ht]))]
  split
  ·split
   ·exact pd n ps _ (fun t ht=>h t (by rw[List.flatMap_cons];exact List.mem_append_right _ ht))
   ·rfl
  ·rfl
theorem qz:∀(l:List X),(∀t∈l.flatMap dJ,R t=R' t)→l.map (X.ev R)=l.map (X.ev R')
 | [],_=>rfl
 | x :: l,h=>by
  simp only[List.map_cons]
  rw[cJ (x:=x) (R':=R') (fun t ht=>h t (by simp[ht])),qz l (fun t ht=>h t (by rw[List.flatMap_cons];exact List.mem_append_right _ ht))]
theorem qA {b:Bo}(h:∀t∈Dj b,R t=R' t):ak R H b=ak R' H b:=by
 cases b<;>simp only[Dj,List.mem_append]at h
 case build z ps=>simp only[ak];rw[nq ps h]
 case o8 n z ps=>simp only[ak];rw[pc _ ps _ h]
 case Pt n z ps=>simp only[ak];rw[pd _ ps _ h]
 case HJ f l=>simp only[ak,KN];rw[qz l h]
 case alloc=>rfl
 case zd=>rfl
 case P8 x lo hi =>
  have h1:=cJ (x:=x) (R:=R) (R':=R') (fun t ht=>h t (.inl (.inl ht)))
  have h2:=fun d=>lr (x:=lo) (d:=d) (R:=R) (R':=R') (fun t ht=>h t (.inl (.inr ht)))
  have h3:=fun d=>lr (x:=hi) (d:=d) (R:=R) (R':=R') (fun t ht=>h t (.inr ht))
  simp only[ak,h1,h2,h3]
 case gm n x lo hi mx =>
  have hm:∀m,mx=some m→m.ev R=m.ev R':=fun m e=>cJ (fun t ht=>h t (.inr (by subst e;exact ht)))
  have h1:=cJ (x:=x) (R:=R) (R':=R') (fun t ht=>h t (.inl (.inl (.inl ht))))
  have h2:=fun d=>lr (x:=lo) (d:=d) (R:=R) (R':=R') (fun t ht=>h t (.inl (.inl (.inr ht))))
  have h3:=fun d=>lr (x:=hi) (d:=d) (R:=R) (R':=R') (fun t ht=>h t (.inl (.inr ht)))
  simp only[ak,h1,h2,h3]
  cases mx with
  | none =>
   cases x.ev R' with
   | sl k es=>dsimp only;cases gg R' 0 lo with
    | none=>rfl
    | some l=>cases gg R' es.length hi<;>rfl
   | ay b off len n'=>rfl
   | _=>rfl
  | some m =>
   cases x.ev R' with
   | sl k es=>dsimp only;cases gg R' 0 lo with
    | none=>rfl
    | some l=>cases gg R' es.length hi with
     | none=>rfl
     | some h=>dsimp only;rw[hm m rfl]
   | ay b off len n'=>rfl
   | _=>rfl
 all_goals first
  | (simp only[ak,cJ h];done)
  | (rename_i x;simp only[ak];rw[cJ (x:=x) (R':=R') h])
  | (rename_i x y;simp only[ak];rw[cJ (x:=x) (R':=R') (fun t ht=>h t (.inl ht)),cJ (x:=y) (R':=R') (fun t ht=>h t (.inr ht))])
  | (rename_i x y z;simp only[ak];rw[cJ (x:=x) (R':=R') (fun t ht=>h t (.inl (.inl ht))),cJ (x:=y) (R':=R') (fun t ht=>h t (.inl (.inr ht))),cJ (x:=z) (R':=R') (fun t ht=>h t (.inr ht))])
theorem kD {g:Gd}(h:∀t∈l3 g,R t=R' t):bL R g=bL R' g:=by
 cases g with
 | none=>rfl
 | some p=>obtain⟨t,b⟩:=p;simp only[bL];rw[h t (by simp[l3])]
theorem vY {b:Bo}(hk:qy b=.pure)(H2:af):ak R H2 b=(ak R H b).map fun p=>(p.1,H2):=by
 cases b<;>simp only[qy]at hk<;>(try (cases hk;done))<;>simp only[ak]
 case gm n x lo hi mx =>
  cases x.ev R with
  | sl k es =>
   dsimp only
   cases gg R 0 lo with
   | none=>rfl
   | some l=>cases gg R es.length hi with
    | none=>rfl
    | some h=>cases mx with
     | none=>dsimp only;split<;>rfl
     | some m=>dsimp only;cases cj (m.ev R)with
      | none=>rfl
      | some m=>dsimp only;split<;>rfl
  | ay b off len n' =>
   dsimp only
   cases gg R 0 lo with
   | none=>rfl
   | some l=>cases gg R len hi with
    | none=>rfl
    | some h=>cases mx with
     | none=>dsimp only;split<;>rfl
     | some m=>rfl
  | dQ b off len n' c =>
   dsimp only
   cases gg R 0 lo with
   | none=>rfl
   | some l=>cases gg R len hi with
    | none=>rfl
    | some h=>cases mx with
     | none=>dsimp only;split<;>rfl
     | some m=>rfl
  | _=>rfl
 all_goals (try rfl)
 all_goals (try (simp[Option.map_map,Function.comp_def];done))
 all_goals (try (simp[Option.map_map,Option.map_bind,Function.comp_def];done))
 all_goals (repeat' split)
 all_goals (try (simp_all [Option.map_map,Function.comp_def];done))
theorem sS {b:Bo}{v:T}{H':af}(hk:qy b=.pure)(h:ak R H b=some (v,H')):H'=H∧∀H2,ak R H2 b=some (v,H2):=by
 constructor
 ·have h1:=vY (R:=R) (H:=H) hk H
  rw[h]at h1;simp at h1;exact h1
 ·intro H2;rw[vY (H:=H) hk H2,h];rfl
theorem lu {l:af}{b:Nat}{x:B}(h:H[b]?=some x):(H++l)[b]?=some x:=by
 rw[List.getElem?_append_left (List.getElem?_eq_some_iff.1 h).1];exact h
theorem IY {n:Nat}{t:T}{cs:List T}(l:af)(h:pr H n t=some cs):pr (H++l) n t=some cs:=by
 unfold pr at *
 cases t<;>simp only[]at h ⊢<;>try (first|exact h|cases h)
 rename_i b off
 cases hb:H[b]? with
 | none=>simp[hb]at h
 | some x=>rw[hb]at h;rw[lu hb];exact h
theorem Br {t:T}{es:List (T×T)}(l:af)(h:gn H t=some es):gn (H++l) t=some es:=by
 unfold gn at *
 cases t<;>simp only[]at h ⊢<;>try (first|exact h|cases h)
 rename_i b
 cases hb:H[b]? with
 | none=>simp[hb]at h
 | some x=>rw[hb]at h;rw[lu hb];exact h
theorem Dl {t:T}{k:Lc}{n:Nat}(l:af)(h:jc H k t=some n):jc (H++l) k t=some n:=by
 unfold jc at *
 cases k<;>cases t<;>simp only[]at h ⊢<;>try (first|exact h|cases h)
 rename_i b
 cases hb:H[b]? with
 | none=>simp[hb]at h
 | some x=>rw[hb]at h;rw[lu hb];exact h
theorem vZ {t:T}{n:Nat}{es:List (List T)}(l:af)(h:bK H n t=some es):bK (H++l) n t=some es:=by
 unfold bK at *
 cases t<;>simp only[]at h ⊢<;>try (first|exact h|cases h)
 rename_i b off len n'
 cases hb:H[b]? with
 | none=>simp[hb]at h
 | some x=>rw[hb]at h;rw[lu hb];exact h
theorem sU {b:Bo}{v:T}{H':af}(hk:qy b=.read)(h:ak R H b=some (v,H')):H'=H∧∀l,ak R (H++l) b=some (v,H++l):=by
 cases b<;>simp only[qy]at hk<;>(try (cases hk;done))<;>simp only[ak]at h ⊢
 case mP=>split at hk<;>cases hk
 case CH x =>
  cases he:bK H 1 (x.ev R)with
  | none=>simp[he]at h
  | some es =>
   rw[he]at h
   refine⟨?_,fun l=>?_⟩
   ·dsimp only at h;split at h
    ·cases h
    ·simp only[Option.map_eq_some_iff,Prod.mk.injEq]at h;obtain⟨_,_,_,e⟩:=h;exact e.symm
   ·rw[vZ l he]
    dsimp only at h ⊢;split at h
    ·cases h
    ·simp only[Option.map_eq_some_iff,Prod.mk.injEq]at h ⊢
     obtain⟨a,h1,h2,_⟩:=h
     rename_i bF
     exact⟨a,h1,h2,trivial⟩
 case len k x =>
  simp only[Option.map_eq_some_iff,Prod.mk.injEq]at h ⊢
  obtain⟨a,h1,h2,h3⟩:=h
  exact⟨h3.symm,fun l=>⟨a,Dl l h1,h2,trivial⟩⟩
 case ld n ag x =>
  cases he:pr H n (x.ev R)with
  | none=>simp[he]at h
  | some cs =>
   simp only[he,Option.map_eq_some_iff,Prod.mk.injEq]at h
   obtain⟨a,h1,h2,h3⟩:=h
   exact⟨h3.symm,fun l=>by simp[IY l he,h1,h2]⟩
 case mW kt z ok m k =>
  split at h
  ·rename_i hh
   simp only[hh,if_true]
   cases he:gn H (m.ev R)with
   | none=>simp[he]at h
   | some es =>
    simp only[he]at h
    simp only[Br _ he]
    split at h
    ·split at h
     ·cases h;exact⟨rfl,fun l=>rfl⟩
     ·cases h
    ·cases h;exact⟨rfl,fun l=>rfl⟩
    ·cases h
  ·cases h
end
theorem v7:∀(l:List Oper) (acc:List Nat),∃rest,eE l acc=acc++rest∧rest.length=l.length
 | [],acc=>⟨[],by simp[eE],rfl⟩
 | o :: l,acc=>by
  obtain⟨r,h,hl⟩:=v7 l (acc++[jA acc o])
  exact⟨jA acc o :: r,by simp[eE,h],by simp[hl]⟩
theorem v8:∀(l:List Oper) (acc:List Nat) (k:Nat) (o:Oper),l[k]?=some o→(eE l acc)[acc.length+k]?=some (jA ((eE l acc).take (acc.length+k)) o)
 | [],_,_,_,h=>by simp at h
 | x :: l,acc,0,o,h=>by
  simp at h;subst h
  obtain⟨r,h,_⟩:=v7 l (acc++[jA acc x])
  simp[eE,h]
 | x :: l,acc,k+1,o,h=>by
  have:=v8 l (acc++[jA acc x]) k o (by simpa using h)
  simp only[List.length_append,List.length_singleton]at this
  simp only[eE]
  rw[show acc.length+(k+1)=acc.length+1+k by omega]
  exact this
theorem sV (acc:List Nat)(t:Nat):∀(l:List Nat) (s:Nat),(l.foldl (fun s j=>s ||| 2^j ||| acc.getD j 0) s).testBit t=true→s.testBit t=true∨∃j∈l,t=j∨(acc.getD j 0).testBit t=true
 | [],s,h=>.inl h
 | x :: l,s,h=>by
  rcases sV acc t l _ h with h|⟨j,hj,h⟩
  ·simp only[Nat.testBit_or,Bool.or_eq_true,Nat.testBit_two_pow,decide_eq_true_eq]at h
   rcases h with(h|h)|h
   ·exact .inl h
   ·exact .inr ⟨x,by simp,.inl h.symm⟩
   ·exact .inr ⟨x,by simp,.inr h⟩
  ·exact .inr ⟨j,by simp[hj],h⟩
theorem v9 {acc:List Nat}{o:Oper}{t:Nat}(h:(jA acc o).testBit t=true):∃j∈cz o,t=j∨(acc.getD j 0).testBit t=true:=by
 rcases sV acc t _ _ h with h|h
 ·simp at h
 ·exact h
theorem we {ops:Array Oper}{D:Nat→Prop}(hD:∀i o,ops[i]?=some o→D i→∀j∈cz o,j<i∧D j) :
  ∀(i:Nat) (o:Oper) (t:Nat),ops[i]?=some o→(∀j∈cz o,j<i∧D j)→((eE ops.toList []).getD i 0).testBit t=true→D t:=by
 intro i
 induction i using Nat.strongRecOn with
 | _ i ih =>
  intro o t ho hp hb
  have h1:=v8 ops.toList [] i o (by simpa using ho)
  simp only[List.length_nil,Nat.zero_add]at h1
  rw[List.getD_eq_getElem?_getD,h1,Option.getD_some]at hb
  obtain⟨j,hj,h⟩:=v9 hb
  obtain⟨ax,hDj⟩:=hp j hj
  rcases h with rfl|h
  ·exact hDj
  ·rw[List.getD_eq_getElem?_getD,List.getElem?_take,if_pos ax,←List.getD_eq_getElem?_getD]at h
   have kC:i<ops.size:=(Array.getElem?_eq_some_iff.1 ho).1
   have hoj:ops[j]?=some ops[j]:=Array.getElem?_eq_getElem (Nat.lt_trans ax kC)
   exact ih j ax ops[j] t hoj (fun k hk=>hD j _ hoj hDj k hk) h
def Fw (r:Option Nat):Fence:={ fn:=fun _=>True,depth:=none,alive:=false,round:=r }
theorem wh {r r':Option Nat}{n:Nat}{P:Program}{f:FuncId}{args:Array Value}{w:World}{K:Ending→World→Prop}(h:CallsIn (Fw r) n P f args w K):CallsIn (Fw r') n P f args w K:=h
section
variable {P:Program} {w0 w:World} {g:Ctx} {H H':af} {R:ar} {a:Act} {n:Nat} {ops:Array Oper}
theorem br {mu:Bool}{o:Oper}{st:List Rd}{y:O}(h:fx P n ops mu o st=some y):∃op gd,bM P mu o.op=some op∧sR ops o.guard=some gd∧y=⟨o.dst,op,gd,st⟩ ∧
  (∀t∈tmpsOf o op gd,t<n)∧∀d,o.dst=some d→d<n:=by
 unfold fx at h
 cases h1:bM P mu o.op with
 | none=>simp[h1]at h
 | some op=>cases h2:sR ops o.guard with
  | none=>simp[h1,h2]at h
  | some gd =>
   simp only[h1,h2]at h
   split at h
   ·rename_i hh
    simp only[Bool.and_eq_true,List.all_eq_true,decide_eq_true_eq]at hh
    exact⟨op,gd,rfl,rfl,(Option.some.inj h).symm,hh.1,fun d hd=>by have:=hh.2;simp[hd]at this;exact this⟩
   ·cases h
def gy (g:Ctx)(w:World)(R:ar)(a:Act)(ts:List Nat):Prop:=∀t∈ts,VR g w (R t) (a.tmps.getD t undef)
theorem gy.sub {ts Me:List Nat}(h:gy g w R a ts)(hs:∀t∈Me,t∈ts):gy g w R a Me:=fun t ht=>h t (hs t ht)
theorem sW {l:List Operand}(h:gy g w R a (eQ l)):RV g w R a.eval l:=by
 intro x hx y hy
 cases x with
 | tmp t=>simp only[aK,Option.some.injEq]at hy;subst hy;exact h t (by simp only[eQ,List.mem_filterMap];exact⟨_,hx,rfl⟩)
 | const v =>
  simp only[aK,Option.map_eq_some_iff]at hy
  obtain⟨t,h1,rfl⟩:=hy
  exact lj h1
 | «global» x=>simp[aK]at hy
 | func f=>simp only[aK,Option.some.injEq]at hy;subst hy;exact .fn rfl (by simp)
theorem oE {o:Oper}{gd:Gd}(hg:sR ops o.guard=some gd)(hn:a.tmps.size=n)(hd:∀t∈l3 gd,t<n)(h:gy g w R a (l3 gd)):Region.wanted o (yielded ops a.tmps)=bL R gd:=by
 unfold Region.wanted
 cases ho:o.guard with
 | none=>rw[ho]at hg;simp only[sR,Option.some.injEq]at hg;subst hg;rfl
 | some p =>
  obtain⟨j,b⟩:=p
  rw[ho]at hg
  simp only[sR]at hg
  cases gz:(ops[j]?).bind (·.dst)with
  | none=>simp[gz]at hg
  | some d =>
   simp only[gz,Option.some.injEq]at hg;subst hg
   have hv:=h d (by simp[l3])
   have ax:d<a.tmps.size:=by rw[hn];exact hd d (by simp[l3])
   simp only[yielded,gz,Option.bind_some,bL]
   rw[Array.getD_eq_getD_getElem?,Array.getElem?_eq_getElem ax,Option.getD_some]at hv
   rw[Array.getElem?_eq_getElem ax]
   generalize R d=t at *
   generalize a.tmps[d]=v at *
   cases hv<;>simp
theorem gG {mu:Bool}{o:Op}{op:KL}(h:bM P mu o=some op):∀c,o≠.defer c:=by
 rintro c rfl;simp[bM,bE]at h
theorem ji {mu:Bool}{o:Op}{b:Bo}(h:bM P mu o=some (.b b)):bE P mu o=some b:=by
 unfold bM at h
 split at h
 ·split at h
  ·simp only[Option.map_eq_some_iff]at h;obtain⟨_,_,h⟩:=h;cases h
  ·split at h
   ·rename_i h1 h2
    cases h
    simp only[bE,h1,h2]
   ·cases h
 ·simp only[Option.map_eq_some_iff]at h;obtain⟨_,_,h⟩:=h;cases h
 ·simp only[Option.map_eq_some_iff]at h;obtain⟨x,h1,h⟩:=h;cases h;exact h1
theorem Dm {r:Option Nat}{mu:Bool}{o:Oper}{b:Bo}{t:T}(hc:bM P mu o.op=some (.b b))(h:SR w0 g H w)(hr:gy g w R a (eQ o.op.operands.toList))(he:ak R H b=some (t,H')) :
  ∃v w' g',(∀(K:Act→World→Prop) (Q:Exit→Act→World→Prop),K (a.put o.dst v) w'→o.wpIn (Fw r) 0 P a w K Q)∧Le g w g' w'∧SR w0 g' H' w'∧VR g' w' t v∧Fr g H g' H':=by
 obtain⟨nx,v,w',g',h1,h2,h3⟩:=MI (fun _=>rfl) (ji hc) h (sW hr) he
 refine⟨v,w',g',fun K Q hk=>⟨fun _ _=>trivial,?_⟩,h3⟩
 rw[Oper.semAt_eq _ _ _ (gG hc),h1]
 rcases h2 with rfl|⟨rfl,rfl⟩
 ·exact hk
 ·exact hk
theorem yc {mu:Bool}{o:Op}{x:X}(h:bE P mu o=some (.pI x)):∃it,o=.next it false∧aK it=some x:=by
 cases o
 case next it str =>
  cases str<;>simp only[bE]at h<;>(try (cases h;done))
  simp only[Option.map_eq_some_iff,Bo.pI.injEq]at h
  obtain⟨y,h1,rfl⟩:=h
  exact⟨it,rfl,h1⟩
 case range ty m =>
  simp only[bE]at h
  split at h
  ·simp only[Option.map_eq_some_iff]at h;obtain⟨_,_,h⟩:=h;cases h
  ·cases h
 case makeMap ty r =>
  cases r<;>simp only[bE]at h<;>cases h
 case makeFunc fn first ke =>
  cases fn<;>simp only[bE]at h<;>(try (cases h;done))
  split at h
  ·simp only[Option.map_eq_some_iff]at h;obtain⟨_,_,h⟩:=h;cases h
  ·cases h
 case call c =>
  obtain⟨callee,args,iw⟩:=c
  cases callee
  case value x =>
   cases x<;>simp only[bE]at h<;>(try (cases h;done))
   split at h<;>cases h
  case builtin b =>
   simp only[bE,Option.bind_eq_some_iff]at h
   obtain⟨l,_,h⟩:=h
   unfold jh at h
   split at h
   ·have hz:∀tl l b',vV P tl l=some b'→b'≠.pI x:=by
     rintro tl l b' hb rfl
     simp only[vV]at hb
     (repeat' split at hb)<;>first|(cases hb;done)|(simp at hb;done)
    split at h
    ·rename_i b' hb;exact absurd (Option.some.inj h) (hz _ _ _ hb)
    ·simp only[lq]at h
     (repeat' split at h)<;>first|(cases h;done)|(simp at h;done)
   all_goals ((repeat' split at h)<;>first|(cases h;done)|(simp at h;done))
  all_goals (simp only[bE]at h;cases h)
 all_goals simp only[bE]at h
 all_goals first|(cases h;done)|(simp only[Option.map_eq_some_iff]at h;obtain⟨_,_,h⟩:=h;cases h;done)|skip
 all_goals (try simp only[Option.bind_eq_some_iff]at h)
 all_goals (try (obtain⟨_,_,h⟩:=h))
 all_goals (try simp only[De,sN,sM,mr,xZ,ou,ov,Bl,Bm,x0]at h)
 all_goals first|((repeat' split at h)<;>first|(cases h;done)|(simp at h;done))|skip
theorem Dn {r:Option Nat}{mu:Bool}{o:Oper}{x:X}{b bi:Nat}{es:List (T×T)}{ix:List Nat}{cur:Option Nat}(hc:bM P mu o.op=some (.b (.pI x)))(h:SR w0 g H w)(hr:gy g w R a (eQ o.op.operands.toList))
  (hx:x.ev R=.ptr bi 0) (hb:H[b]?=some (.cP es ix bi cur)) :
  ∃t H' v w' g',mZ H b bi es ix t H'∧(∀(K:Act→World→Prop) (Q:Exit→Act→World→Prop),K (a.put o.dst v) w'→o.wpIn (Fw r) 0 P a w K Q)∧Le g w g' w'∧SR w0 g' H' w'∧VR g' w' t v∧Fr g H g' H':=by
 have fv:=gG hc
 obtain⟨it,ho,h1⟩:=yc (ji hc)
 have hv:=sW hr it (by rw[ho];simp[Op.operands]) x h1
 rw[hx]at hv
 obtain⟨t,H',hn,v,w',g',ct,h3⟩:=IH (P:=P) (ty:=o.type) h hv hb
 refine⟨t,H',v,w',g',hn,fun K Q hk=>⟨fun _ _=>trivial,?_⟩,h3⟩
 rw[Oper.semAt_eq _ _ _ fv]
 have e:(execOp a.eval o).run P w=.ok (.value v) w':=by
  obtain⟨dst,op,ty,pos,after,guard⟩:=o
  simp only at ho;subst ho
  simp[execOp,ct]
 rw[e]
 exact hk
theorem jC {f:FuncId}{args:Array Value}(hf:dw P f=true):(callFunc f args).run P w=.ok (.enter f args) w:=by
 unfold dw at hf
 cases h:P.funcs[f]? with
 | none=>simp[h]at hf
 | some fn =>
  simp only[h,Bool.and_eq_true,bne_iff_ne,ne_eq]at hf
  obtain⟨c,hb⟩:=Option.isSome_iff_exists.1 hf.2
  simp[callFunc,h,hf.1,hb]
def yd (r:Option Nat)(P:Program)(o:Oper)(a:Act)(K:Act→World→Prop):Ending→World→Prop:=fun e w'=>∃v,e=.returned v∧K (a.put o.dst v) w'
theorem upon_enter {r:Option Nat}{o:Oper}{f:FuncId}{args:Array Value}{K:Act→World→Prop}{Q:Exit→Act→World→Prop}(h:CallsIn (Fw none) 0 P f args w (yd r P o a K)) :
  o.uponIn (Fw r) 0 P a K Q (.ok (.enter f args) w):=by
 rw[Oper.uponIn_enter]
 refine⟨fun h=>by simp[Fw]at h,(wh h).mono fun e w' he=>?_⟩
 obtain⟨v,rfl,hk⟩:=he
 exact hk
theorem ur {mu:Bool}{op:Op}{f:Nat}{as:List X}(h:bM P mu op=some (.call f as)) :
  ∃args iw,op=.call { callee:=.value (.func f),args:=args,argTypes:=iw }∧dw P f=true∧fE args.toList=some as:=by
 cases op
 case call c =>
  obtain⟨callee,args,iw⟩:=c
  cases callee
  case value x =>
   cases x
   case func f' =>
    simp only[bM]at h
    split at h
    ·rename_i hc
     simp only[Option.map_eq_some_iff]at h
     obtain⟨PH,h1,h2⟩:=h
     cases h2
     exact⟨args,iw,rfl,hc,h1⟩
    ·split at h<;>cases h
   all_goals simp[bM,bE]at h
  all_goals (simp only[bM,Option.map_eq_some_iff]at h;obtain⟨_,_,h⟩:=h;cases h)
 all_goals (simp only[bM,Option.map_eq_some_iff]at h;obtain⟨_,_,h⟩:=h;cases h)
theorem l4 {mu:Bool}{op:Op}{x:X}{as:List X}(h:bM P mu op=some (.bB x as)) :
  ∃t args iw,x=.r t∧op=.call { callee:=.value (.tmp t),args:=args,argTypes:=iw }∧fE args.toList=some as:=by
 cases op
 case call c =>
  obtain⟨callee,args,iw⟩:=c
  cases callee
  case value x =>
   cases x
   case tmp t =>
    simp only[bM,Option.map_eq_some_iff]at h
    obtain⟨PH,h1,h2⟩:=h
    cases h2
    exact⟨t,args,iw,rfl,rfl,h1⟩
   case func f' =>
    simp only[bM]at h
    split at h
    ·simp only[Option.map_eq_some_iff]at h
     obtain⟨PH,h1,h2⟩:=h
     cases h2
    ·split at h<;>cases h
   all_goals simp[bM,bE]at h
  all_goals (simp only[bM,Option.map_eq_some_iff]at h;obtain⟨_,_,h⟩:=h;cases h)
 all_goals (simp only[bM,Option.map_eq_some_iff]at h;obtain⟨_,_,h⟩:=h;cases h)
theorem Bs {r:Option Nat}{mu:Bool}{o:Oper}{f:Nat}{as:List X}(hc:bM P mu o.op=some (.call f as))(hr:gy g w R a (eQ o.op.operands.toList)) :
  ∃args:List Value,bD g w (as.map (X.ev R)) args ∧
   ∀(K:Act→World→Prop) (Q:Exit→Act→World→Prop),dw P f=true→CallsIn (Fw none) 0 P f args.toArray w (yd r P o a K)→o.wpIn (Fw r) 0 P a w K Q:=by
 have fv:=gG hc
 obtain⟨args,iw,ho,jD,h1⟩:=ur hc
 have hv:=fF (ρ:=a.eval) args.toList as h1 (sW (hr.sub fun t ht=>by
  simp only[eQ,List.mem_filterMap]at ht ⊢
  obtain⟨x,hx,e⟩:=ht
  exact⟨x,by rw[ho];simp only[Op.operands,Call.operands];simp at hx;simp[hx],e⟩))
 refine⟨args.toList.map a.eval,hv,fun K Q _ hk=>⟨fun _ _=>trivial,?_⟩⟩
 rw[Oper.semAt_eq _ _ _ fv]
 have ct:(execOp a.eval o).run P w=.ok (.enter f (args.toList.map a.eval).toArray) w:=by
  have:=jC (P:=P) (w:=w) (args:=(args.toList.map a.eval).toArray) jD
  have e2:(args.toList.map a.eval).toArray=args.map a.eval:=by rw[←Array.toList_map]
  rw[e2]at this ⊢
  simp only[execOp,ho,resolve,Act.eval,Deferred.ofValue,invoke]
  simpa using this
 rw[ct]
 exact upon_enter hk
theorem ye {r:Option Nat}{mu:Bool}{o:Oper}{x:X}{f:Nat}{cs:List T}{as:List X}(hc:bM P mu o.op=some (.bB x as))(hr:gy g w R a (eQ o.op.operands.toList))(hx:x.ev R=.fn f cs) :
  ∃args:List Value,bD g w (as.map (X.ev R)++cs) args ∧
   ∀(K:Act→World→Prop) (Q:Exit→Act→World→Prop),dw P f=true→CallsIn (Fw none) 0 P f args.toArray w (yd r P o a K)→o.wpIn (Fw r) 0 P a w K Q:=by
 have fv:=gG hc
 obtain⟨t,args,iw,rfl,ho,h1⟩:=l4 hc
 have hv:=fF (ρ:=a.eval) args.toList as h1 (sW (hr.sub fun t ht=>by
  simp only[eQ,List.mem_filterMap]at ht ⊢
  obtain⟨x,hx,e⟩:=ht
  exact⟨x,by rw[ho];simp only[Op.operands,Call.operands];simp at hx;simp[hx],e⟩))
 have hf:=hr t (by rw[ho];simp only[eQ,List.mem_filterMap];exact⟨.tmp t,by simp[Op.operands,Call.operands],rfl⟩)
 simp only[X.ev]at hx
 rw[hx]at hf
 generalize IW:a.tmps.getD t undef=vf at hf
 cases hf with
 | @fn _ _ vs hl ug =>
  refine⟨args.toList.map a.eval++vs.toList,hv.append ⟨by simp[hl],fun i t v ha hb=>ug i t v ha (by simpa using hb)⟩,fun K Q jD hk=>⟨fun _ _=>trivial,?_⟩⟩
  rw[Oper.semAt_eq _ _ _ fv]
  have ct:(execOp a.eval o).run P w=.ok (.enter f (args.toList.map a.eval++vs.toList).toArray) w:=by
   have:=jC (P:=P) (w:=w) (args:=(args.toList.map a.eval++vs.toList).toArray) jD
   have e2:(args.toList.map a.eval++vs.toList).toArray=args.map a.eval++vs:=by rw[←Array.toList_map];simp
   rw[e2]at this ⊢
   have e:a.eval (.tmp t)=.func (.func f) #[] vs:=IW
   simp only[execOp,ho,resolve,e,Deferred.ofValue,invoke]
   simpa using this
  rw[ct]
  exact upon_enter hk
end
def l6:T→Option Nat
 | .ptr b _ | .map b=>some b
 | _=>none
def jE (R:ar)(y:It):Option Nat:=match y.o.d,y.o.op with
 | some d,.b (.alloc _)=>l6 (R d)
 | some d,.b .zd=>l6 (R d)
 | _,_=>none
def sf (g:Ctx)(N:Nat)(R:ar)(H:af)(y:It):Prop :=
 (bL R y.o.g=false∧∀d,y.o.d=some d→R d=bX) ∨
 (bL R y.o.g=true∧∃d b,y.o.d=some d∧y.o.op=.b b∧(
  ((qy b=.pure∨qy b=.read)∧ak R H b=some (R d,H)) ∨
  (∃k z,b=.alloc z∧R d=.ptr k 0∧H[k]?=some (.cells z)∧g.φ k=none∧N≤k) ∨
  (∃k,b=.zd∧R d=.map k∧H[k]?=some (.map [])∧g.φ k=none∧N≤k)))
theorem sf.mono {g g':Ctx}{N:Nat}{R R':ar}{H H':af}{y:It}(h:sf g N R H y)(hg:∀t∈l3 y.o.g,R' t=R t)(hr:∀t∈zy y.o.op,R' t=R t)(hd:∀d,y.o.d=some d→R' d=R d)
  (QE:∀d b,bL R y.o.g=true→y.o.d=some d→y.o.op=.b b→qy b=.read→ak R H b=some (R d,H)→ak R H' b=some (R d,H'))
  (vu:∀k x,jE R y=some k→H[k]?=some x→(∀e,x≠.tok e)→g.φ k=none→N≤k→H'[k]?=some x∧g'.φ k=none):sf g' N R' H' y:=by
 have hw:bL R' y.o.g=bL R y.o.g:=kD hg
 rcases h with⟨h1,h2⟩|⟨h1,d,b,h2,h3,h4⟩
 ·exact .inl ⟨hw▸h1,fun d e=>by rw[hd d e];exact h2 d e⟩
 ·refine .inr ⟨hw▸h1,d,b,h2,h3,?_⟩
  rw[hd d h2]
  rw[h3]at hr
  rcases h4 with⟨hk,he⟩|⟨k,z,rfl,e1,e2,e3,e4⟩|⟨k,rfl,e1,e2,e3,e4⟩
  ·refine .inl ⟨hk,?_⟩
   rw[qA (R:=R') (R':=R) hr]
   rcases hk with hk|hk
   ·exact(sS hk he).2 H'
   ·exact QE d b h1 h2 h3 hk he
  ·have hm:=vu k _ (by simp[jE,h2,h3,e1,l6]) e2 (by simp) e3 e4
   exact .inr (.inl ⟨k,z,rfl,e1,hm.1,hm.2,e4⟩)
  ·have hm:=vu k _ (by simp[jE,h2,h3,e1,l6]) e2 (by simp) e3 e4
   exact .inr (.inr ⟨k,rfl,e1,hm.1,hm.2,e4⟩)
theorem qB (a:Act)(d:Option Nat)(v:Value)(t:Nat)(hd:∀e,d=some e→e<a.tmps.size):(a.put d v).tmps.getD t undef=if d=some t then v else a.tmps.getD t undef:=by
 cases d with
 | none=>simp[Act.put]
 | some d =>
  have ax:=hd d rfl
  simp only[Act.put]
  by_cases e:d=t
  ·subst e;simp[Array.getD_eq_getD_getElem?,ax]
  ·rw[if_neg (by simpa using e),Array.getD_eq_getD_getElem?,Array.getD_eq_getD_getElem?,Array.getElem?_setIfInBounds_ne e]
theorem qC (a:Act)(d:Option Nat)(v:Value):(a.put d v).tmps.size=a.tmps.size:=by cases d<;>simp[Act.put]
theorem iR (a:Act)(d:Option Nat)(v:Value):(a.put d v).defers=a.defers:=by cases d<;>simp[Act.put]
theorem cA {R:ar}{d:Option Nat}{v:T}{t:Nat}(h:d≠some t):bA R d v t=R t:=by
 cases d with
 | none=>rfl
 | some d=>simp only[bA,nY];rw[if_neg];rintro rfl;exact h rfl
theorem iC {R:ar}{v:T}{t:Nat}:bA R (some t) v t=v:=by simp[bA,nY]
theorem SR.We {w0 w:World}{g:Ctx}{H:af}(h:SR w0 g H w){x:B}(hx:(∃cs,x=.cells cs)∨∃es,x=.map es):SR w0 g (H++[x]) w:=by
 refine⟨h.size,h.jv,h.A4,h.fresh,fun b y hy=>by have:=h.rV b y hy;simp;omega,fun t e y hy=>by have:=h.iP t e y hy;simp;omega,fun b y hy=>?_,h.pJ,h.env⟩
 by_cases hb:b=H.length
 ·subst hb
  rw[fh]at hy
  have hn:=h.Ie (b:=H.length) (Nat.le_refl _)
  cases hy
  rcases hx with⟨cs,rfl⟩|⟨es,rfl⟩<;>intro r o q hq<;>rw[hn]at hq<;>cases hq
 ·exact h.dP b y (cT hb hy)
theorem SR.drew {w0 w w':World}{g:Ctx}{H:af}(h:SR w0 g H w)(tr:Tr w w' gq iz)(hz:w'.heap.size=w.heap.size):SR w0 g H w'∧Le g w g w':=by
 have le:Le g w g w':=Le.gM tr (fun _ _ h=>h) (fun _ _ h=>h) (fun _ _ _ h=>h) (fun _ _ hs=>hs.elim)
 refine⟨?_,le⟩
 exact h.step (fun _=>False) tr le (fun _ _ hs=>hs.elim) (fun _ hm=>hm.elim) (fun r o hr=>h.fresh r o (by omega)) h.rV h.iP (fun _ _ _=>rfl) (fun _ _ _ _=>⟨id,id⟩) (fun _ _ _ _=>rfl) (fun b x hx=>.inl ⟨id,hx⟩)
section
variable {P:Program} {w0 w:World} {g:Ctx} {H:af} {a:Act}
theorem wo {r:Option Nat}{mu:Bool}{o:Oper}{z:List T}{k:Nat}(hm:x9 o.op=true)(hc:bM P mu o.op=some (.b (.alloc z)))(h:SR w0 g H w)(hk:H[k]?=some (.cells z))(hn:g.φ k=none) :
  ∃v w' g',(∀(K:Act→World→Prop) (Q:Exit→Act→World→Prop),K (a.put o.dst v) w'→o.wpIn (Fw r) 0 P a w K Q)∧Le g w g' w'∧SR w0 g' H w'∧VR g' w' (.ptr k 0) v∧∀b,g.φ b=none→b≠k→g'.φ b=none:=by
 obtain⟨dst,op,ty,pos,after,guard⟩:=o
 simp only at hm hc
 have hc:=ji hc
 unfold x9 at hm
 split at hm
 ·rename_i t _
  simp only[bE,Option.map_eq_some_iff]at hc
  obtain⟨z',h1,h2⟩:=hc
  cases h2
  obtain⟨i,zv,h2,h3,h4⟩:=fG h1
  obtain⟨hv,ho⟩:=dA (g:=g) (w:=w) _ _ h4
  have tr:Tr w w gq iz:=Tr.refl w
  obtain⟨le,sr,fr⟩:=h.mut (c:=zv.cells) (ty:=t) (H':=H) (b:=k) tr rfl hk hn (fun b' x _ hx=>.inl hx) (Nat.le_refl _) (fun b' x hx _ _ _=>hx) (by simpa using hv.Mo ho)
  refine⟨.pointer (some ⟨w.heap.size,0,none⟩),_,_,fun K Q hk=>⟨fun _ _=>trivial,?_⟩,le,sr,.ptr (r:=w.heap.size) (o:=0) (q:=zv.cells.size) (by simp[Ctx.at]),fun b hb bF=>by simp only[Ctx.at,Ctx.row];rw[if_neg bF];exact hb⟩
  rw[Oper.semAt_eq _ _ _ (by rintro c⟨⟩)]
  have ct:(execOp a.eval ⟨dst,.alloc t,ty,pos,after,guard⟩).run P w=.ok (.value (.pointer (some ⟨w.heap.size,0,none⟩))) (w.alloc (.cells zv.cells t)):=by
   simp[execOp,Instr.alloc,zeroValue,bq h2,h3,newVar,newRow]
  rw[ct]
  exact hk
 ·simp[bE]at hc
 ·cases hm
theorem Bt {r:Option Nat}{mu:Bool}{o:Oper}{k:Nat}(hm:x9 o.op=true)(hc:bM P mu o.op=some (.b .zd))(h:SR w0 g H w)(hk:H[k]?=some (.map []))(hn:g.φ k=none) :
  ∃v w' g',(∀(K:Act→World→Prop) (Q:Exit→Act→World→Prop),K (a.put o.dst v) w'→o.wpIn (Fw r) 0 P a w K Q)∧Le g w g' w'∧SR w0 g' H w'∧VR g' w' (.map k) v∧∀b,g.φ b=none→b≠k→g'.φ b=none:=by
 obtain⟨dst,op,ty,pos,after,guard⟩:=o
 simp only at hm hc
 have hc:=ji hc
 unfold x9 at hm
 split at hm
 ·simp[bE]at hc
 ·rename_i t _
  obtain⟨le,sr⟩:=h.C3 (H':=H) (b:=k) hk hn (fun b' x _ hx=>hx) (Nat.le_refl _)
  refine⟨.map (some w.heap.size),_,_,fun K Q hk=>⟨fun _ _=>trivial,?_⟩,le,sr,.map (r:=w.heap.size) (o:=0) (q:=0) (by simp[Ctx.at]),fun b hb bF=>by simp only[Ctx.at,Ctx.row];rw[if_neg bF];exact hb⟩
  rw[Oper.semAt_eq _ _ _ (by rintro c⟨⟩)]
  have ct:(execOp a.eval ⟨dst,.makeMap t none,ty,pos,after,guard⟩).run P w=.ok (.value (.map (some w.heap.size))) (w.alloc (.map #[] 0)):=by
   simp[execOp,Instr.makeMap]
  rw[ct]
  exact hk
 ·cases hm
end
theorem Fr.ext (g:Ctx)(H l:af):Fr g H g (H++l):=⟨by simp,fun b x hx _ hn=>⟨lu hx,hn⟩⟩
structure Dr (P:Program)(n:Nat)(ops:Array Oper)(mu:Nat→Bool)(w0:World)(df:List Deferred)(mk:T)(g0:Ctx)(ws:World)(H0:af)
  (pre:List It) (L:Array Bool) (g:Ctx) (R:ar) (H:af) (a:Act) (w:World):Prop where
 yf:L.size=ops.size
 cmp:∀y∈pre,∃o,ops[y.i]?=some o∧(∃st,fx P n ops (mu y.i) o st=some y.o)∧y.ts=tmpsOf o y.o.op y.o.g
 rd:∀y∈pre,∀z∈pre,z.early=true→∀d,z.o.d=some d→d∈y.ts→((eE ops.toList []).getD y.i 0).testBit z.i=true
 dd:∀y∈pre,∀z∈pre,∀d,y.o.d=some d→z.o.d=some d→y.i=z.i
 kl:∀y∈pre,y.early=true→∀o,ops[y.i]?=some o→Hg y.o=.make→x9 o.op=true
 uniq:∀y∈pre,∀z∈pre,y.i=z.i→y=z
 sk:∀y∈pre,∀o,ops[y.i]?=some o→∀j∈cz o,j<y.i
 closed:∀i o,ops[i]?=some o→L.getD i false=true→∀j∈cz o,j<i∧L.getD j false=true
 sub:∀i,L.getD i false=true→∃y∈pre,y.i=i
 qD:∀y∈pre,y.early=false→L.getD y.i false=true
 sr:SR w0 g H w
 le:Le g0 ws g w
 fr:Fr g0 H0 g H
 vw:a.tmps.size=n
 uu:∀t,t<n→(∀y∈pre,L.getD y.i false=false→y.o.d≠some t)→VR g w (R t) (a.tmps.getD t undef)
 ft:∀y∈pre,L.getD y.i false=false→sf g H0.length R H y
 inj:∀y∈pre,∀z∈pre,L.getD y.i false=false→L.getD z.i false=false→y.i≠z.i→∀k,jE R y=some k→jE R z≠some k
 KV:a.defers=df
 KW:R n=mk
section
variable {P:Program} {n:Nat} {ops:Array Oper} {mu:Nat→Bool} {w0 w ws:World} {df:List Deferred} {mk:T} {g g0:Ctx} {H H0 H':af} {pre:List It} {L:Array Bool} {R:ar} {a:Act} {r:Option Nat}
theorem lx {i:Nat}(h:i∈Region.ready .any ops L):L.getD i false=false∧∃o,ops[i]?=some o∧∀j∈cz o,L.getD j false=true:=by
 obtain⟨h1,o,h2,h3⟩:=mem_ready.1 h
 refine⟨?_,o,h2,fun j hj=>?_⟩
 ·cases hi:L[i]? with
  | none=>simp[Array.getD_eq_getD_getElem?,hi]at h1
  | some b=>simp[Array.getD_eq_getD_getElem?,hi]at h1 ⊢;exact h1
 ·simp only[cz,List.mem_map,List.mem_filter]at hj
  obtain⟨e,⟨he,hb⟩,rfl⟩:=hj
  exact h3 e (by simpa using he) hb
theorem Dr.bit (h:Dr P n ops mu w0 df mk g0 ws H0 pre L g R H a w){i:Nat}{o:Oper}{t:Nat}(ho:ops[i]?=some o)(hp:∀j∈cz o,j<i∧L.getD j false=true)
  (hb:((eE ops.toList []).getD i 0).testBit t=true):L.getD t false=true :=
 we (D:=fun i=>L.getD i false=true) h.closed i o t ho hp hb
theorem dy {i j:Nat}(hi:i<L.size):(L.setIfInBounds i true).getD j false=if i=j then true else L.getD j false:=by
 by_cases e:i=j
 ·subst e;simp[Array.getD_eq_getD_getElem?,hi]
 ·rw[if_neg e,Array.getD_eq_getD_getElem?,Array.getD_eq_getD_getElem?,Array.getElem?_setIfInBounds_ne e]
theorem gA {o:Oper}{y:It}(h:y.ts=tmpsOf o y.o.op y.o.g):(∀t∈l3 y.o.g,t∈y.ts)∧(∀t∈zy y.o.op,t∈y.ts)∧∀t∈eQ o.op.operands.toList,t∈y.ts:=by
 rw[h];unfold tmpsOf
 exact⟨fun t ht=>by simp[ht],fun t ht=>by simp[ht],fun t ht=>by simp[ht]⟩
theorem Dr.look (h:Dr P n ops mu w0 df mk g0 ws H0 pre L g R H a w){i:Nat}{o:Oper}{ts:List Nat}(ho:ops[i]?=some o)(hp:∀j∈cz o,j<i∧L.getD j false=true)(hn:∀t∈ts,t<n)
  (hz:∀z∈pre,z.early=true→∀d,z.o.d=some d→d∈ts→((eE ops.toList []).getD i 0).testBit z.i=true):gy g w R a ts:=by
 intro t ht
 refine h.uu t (hn t ht) fun z pQ hu hd=>?_
 cases he:z.early with
 | false=>rw[h.qD z pQ he]at hu;cases hu
 | true=>rw[h.bit ho hp (hz z pQ he t hd ht)]at hu;cases hu
theorem Dr.late (h:Dr P n ops mu w0 df mk g0 ws H0 pre L g R H a w){y:It}(hy:y∈pre)(hr:y.i∈Region.ready .any ops L) :
  ∃v w' g',(∀(K:Act→World→Prop) (Q:Exit→Act→World→Prop),K (a.put y.o.d v) w'→wpOpIn (Fw r) 0 P ops Q y.i K a w) ∧
   Dr P n ops mu w0 df mk g0 ws H0 pre (L.setIfInBounds y.i true) g' R H (a.put y.o.d v) w':=by
 obtain⟨MK,o,ho,oF⟩:=lx hr
 obtain⟨o',mo,⟨st,fu⟩,Ct⟩:=h.cmp y hy
 rw[ho]at mo;cases mo
 obtain⟨op,gd,PI,hgd,ML,Wf,Hi⟩:=br fu
 have hd:y.o.d=o.dst:=by rw[ML]
 have QF:y.o.op=op:=by rw[ML]
 have Wg:y.o.g=gd:=by rw[ML]
 obtain⟨ht1,UY,ht3⟩:=gA Ct
 have hp:∀j∈cz o,j<y.i∧L.getD j false=true:=fun j hj=>⟨h.sk y hy o ho j hj,oF j hj⟩
 have pL:gy g w R a y.ts:=h.look ho hp (fun t ht=>Wf t (by rw[Ct,QF,Wg]at ht;exact ht)) (h.rd y hy)
 have UZ:Region.wanted o (yielded ops a.tmps)=bL R y.o.g:=by
  rw[Wg];exact oE hgd h.vw (fun t ht=>Wf t (by simp[tmpsOf,ht])) (pL.sub (by rw[←Wg];exact ht1))
 have kC:y.i<L.size:=by rw[h.yf];exact(Array.getElem?_eq_some_iff.1 ho).1
 have Wh:∀e,y.o.d=some e→e<a.tmps.size:=fun e he=>by rw[h.vw];exact Hi e (hd▸he)
 have dE:∀v w' g',Le g w g' w'→SR w0 g' H w'→(∀d,y.o.d=some d→VR g' w' (R d) v)→Fr g0 H0 g' H→(∀z∈pre,L.getD z.i false=false→z.i≠y.i→sf g' H0.length R H z) →
   Dr P n ops mu w0 df mk g0 ws H0 pre (L.setIfInBounds y.i true) g' R H (a.put y.o.d v) w':=by
  intro v w' g' le sr hv fr QG
  refine { yf:=(by simp[h.yf]),cmp:=h.cmp,rd:=h.rd,dd:=h.dd,kl:=h.kl,uniq:=h.uniq,sk:=h.sk,closed:=?_,sub:=?_,qD:=?_,sr:=sr,le:=h.le.trans le,fr:=fr,vw:=(by rw[qC];exact h.vw),uu:=?_,ft:=?_,inj:=?_,KV:=(by rw[iR];exact h.KV),KW:=h.KW }
  ·intro i oi yg yh j hj
   rw[dy kC]at yh ⊢
   by_cases e:y.i=i
   ·subst e;rw[ho]at yg;cases yg
    obtain⟨h1,h2⟩:=hp j hj
    exact⟨h1,by split<;>simp[h2]⟩
   ·rw[if_neg e]at yh
    obtain⟨h1,h2⟩:=h.closed i oi yg yh j hj
    exact⟨h1,by split<;>simp[h2]⟩
  ·intro i yh
   rw[dy kC]at yh
   by_cases e:y.i=i
   ·exact⟨y,hy,e⟩
   ·rw[if_neg e]at yh;exact h.sub i yh
  ·intro z hz he
   rw[dy kC]
   split
   ·rfl
   ·exact h.qD z hz he
  ·intro t ht gB
   rw[qB _ _ _ _ Wh]
   split
   ·rename_i e;exact hv t e
   ·rename_i e
    refine(h.uu t ht fun z hz hu pU=>?_).mono le
    by_cases ez:y.i=z.i
    ·rw[h.uniq y hy z hz ez]at e;exact e pU
    ·exact gB z hz (by rw[dy kC,if_neg ez];exact hu) pU
  ·intro z hz hu
   rw[dy kC]at hu
   by_cases ez:y.i=z.i
   ·rw[if_pos ez]at hu;cases hu
   ·rw[if_neg ez]at hu;exact QG z hz hu (Ne.symm ez)
  ·intro z hz z' pQ hu Dp
   rw[dy kC]at hu Dp
   by_cases ez:y.i=z.i
   ·rw[if_pos ez]at hu;cases hu
   ·by_cases ez':y.i=z'.i
    ·rw[if_pos ez']at Dp;cases Dp
    ·rw[if_neg ez]at hu;rw[if_neg ez']at Dp;exact h.inj z hz z' pQ hu Dp
 have Dq:∀g',Fr g H g' H→∀z∈pre,L.getD z.i false=false→z.i≠y.i→sf g' H0.length R H z:=fun g' fr z hz hu _ =>
  (h.ft z hz hu).mono (fun _ _=>rfl) (fun _ _=>rfl) (fun _ _=>rfl) (fun _ _ _ _ _ _ e=>e) (fun k x _ hx IZ hn _=>fr.2 k x hx IZ hn)
 rcases h.ft y hy MK with⟨hw,hu⟩|⟨hw,d,b,pf,kb,QH⟩
 ·refine⟨undef,w,g,fun K Q hk=>?_,dE undef w g (.refl _ _) h.sr (fun d e=>by rw[hu d e];exact gP) h.fr (Dq g (.refl _ _))⟩
  unfold wpOpIn
  simp only[ho,UZ,hw]
  rw[hd]at hk
  exact⟨fun _ _=>trivial,hk⟩
 ·have MM:bM P (mu y.i) o.op=some (.b b):=by rw[←kb,QF];exact PI
  rcases QH with⟨hk,he⟩|⟨k,z,rfl,e1,e2,e3,e4⟩|⟨k,rfl,e1,e2,e3,e4⟩
  ·obtain⟨v,w',g',hs,le,sr,hv,fr⟩:=Dm (r:=r) MM h.sr (pL.sub ht3) he
   refine⟨v,w',g',fun K Q bO=>?_,dE v w' g' le sr (fun d' e=>by rw[pf]at e;cases e;exact hv) (h.fr.trans fr) (Dq g' fr)⟩
   unfold wpOpIn
   simp only[ho,UZ,hw,if_true]
   exact hs K Q (by rw[←hd];exact bO)
  ·-- a variable aaJ jB place
   have MN:y.early=true:=by cases he:y.early with|true=>rfl|false=>rw[h.qD y hy he]at MK;cases MK
   have vu:=h.kl y hy MN o ho (by simp[Hg,kb,pf,qy])
   obtain⟨v,w',g',hs,le,sr,hv,hφ⟩:=wo (r:=r) (a:=a) vu MM h.sr e2 e3
   have Wi:jE R y=some k:=by simp[jE,pf,kb,e1,l6]
   refine⟨v,w',g',fun K Q bO=>?_,dE v w' g' le sr (fun d' e=>by rw[pf]at e;cases e;rw[e1];exact hv) ⟨h.fr.1,fun b x hx IZ hb=>?_⟩ fun z' pQ Dp bF=>?_⟩
   ·unfold wpOpIn
    simp only[ho,UZ,hw,if_true]
    exact hs K Q (by rw[←hd];exact bO)
   ·obtain⟨f1,f2⟩:=h.fr.2 b x hx IZ hb
    exact⟨f1,hφ b f2 (by have:=(List.getElem?_eq_some_iff.1 hx).1;omega)⟩
   ·exact(h.ft z' pQ Dp).mono (fun _ _=>rfl) (fun _ _=>rfl) (fun _ _=>rfl) (fun _ _ _ _ _ _ e=>e) fun k' x qn hx _ hn _ =>
     ⟨hx,hφ k' hn (by rintro rfl;exact h.inj y hy z' pQ MK Dp (Ne.symm bF) k' Wi qn)⟩
  ·have MN:y.early=true:=by cases he:y.early with|true=>rfl|false=>rw[h.qD y hy he]at MK;cases MK
   have vu:=h.kl y hy MN o ho (by simp[Hg,kb,pf,qy])
   obtain⟨v,w',g',hs,le,sr,hv,hφ⟩:=Bt (r:=r) (a:=a) vu MM h.sr e2 e3
   have Wi:jE R y=some k:=by simp[jE,pf,kb,e1,l6]
   refine⟨v,w',g',fun K Q bO=>?_,dE v w' g' le sr (fun d' e=>by rw[pf]at e;cases e;rw[e1];exact hv) ⟨h.fr.1,fun b x hx IZ hb=>?_⟩ fun z' pQ Dp bF=>?_⟩
   ·unfold wpOpIn
    simp only[ho,UZ,hw,if_true]
    exact hs K Q (by rw[←hd];exact bO)
   ·obtain⟨f1,f2⟩:=h.fr.2 b x hx IZ hb
    exact⟨f1,hφ b f2 (by have:=(List.getElem?_eq_some_iff.1 hx).1;omega)⟩
   ·exact(h.ft z' pQ Dp).mono (fun _ _=>rfl) (fun _ _=>rfl) (fun _ _=>rfl) (fun _ _ _ _ _ _ e=>e) fun k' x qn hx _ hn _ =>
     ⟨hx,hφ k' hn (by rintro rfl;exact h.inj y hy z' pQ MK Dp (Ne.symm bF) k' Wi qn)⟩
end
structure Hd (P:Program)(n:Nat)(ops:Array Oper)(mu:Nat→Bool)(pre:List It)(x:It)(o:Oper):Prop where
 ho:ops[x.i]?=some o
 co:fx P n ops (mu x.i) o x.o.AS=some x.o
 ts:x.ts=tmpsOf o x.o.op x.o.g
 st:x.early=false→x.o.AS=iQ ((eE ops.toList []).getD x.i 0) pre
 pred:∀j∈cz o,j<x.i∧∃z∈pre,z.i=j
 beh:∀z∈pre,z.early=true∨((eE ops.toList []).getD x.i 0).testBit z.i=true
 ne:∀z∈pre,z.i≠x.i
 dst:∀d,x.o.d=some d→(∀z∈pre,z.o.d≠some d∧(d∈z.ts→x.early=false∧((eE ops.toList []).getD x.i 0).testBit z.i=true))∧d∉x.ts
 Wj:∀z∈pre,∀d,z.o.d=some d→d∈x.ts→((eE ops.toList []).getD x.i 0).testBit z.i=true
 kl:x.early=true→Hg x.o≠.MJ∧(Hg x.o=.make→x9 o.op=true)
theorem Bu {P:Program}{n:Nat}{ops:Array Oper}{mu:Nat→Bool}{pre:List It}{y:Nat×Bool}{x:It}(h:ya P n ops mu ((eE ops.toList []).getD y.1 0) pre y=some x):∃o,Hd P n ops mu pre x o:=by
 unfold ya at h
 generalize Hb:(eE ops.toList []).getD y.1 0=bs at h
 cases ho:ops[y.1]? with
 | none=>simp[ho]at h
 | some o =>
  rw[ho]at h;dsimp only at h
  cases hc:fx P n ops (mu y.1) o (if y.2=true then []else iQ bs pre)with
  | none=>rw[hc]at h;cases h
  | some o' =>
   rw[hc]at h;dsimp only at h
   split at h
   ·rename_i hk
    cases h
    subst Hb
    have dF:o'.AS=if y.2=true then []else iQ ((eE ops.toList []).getD y.1 0) pre:=by
     obtain⟨op,gd,_,_,e,_⟩:=br hc;rw[e]
    simp only[Dk,Bool.and_eq_true,List.all_eq_true,decide_eq_true_eq,List.any_eq_true,beq_iff_eq,Bool.or_eq_true,bne_iff_ne,ne_eq,Bool.not_eq_true']at hk
    obtain⟨⟨⟨⟨⟨k1,k2⟩,k3⟩,k4⟩,k5⟩,k6⟩:=hk
    refine⟨o,ho,by rw[dF];exact hc,rfl,fun he=>by simp only at he;rw[dF,he];rfl,k1,k2,k3,fun d hd=>?_,fun z hz d hd ht=>?_,fun he=>?_⟩
    ·simp only at hd
     rw[hd]at k4
     simp only[List.all_eq_true,Bool.and_eq_true,bne_iff_ne,ne_eq,Bool.or_eq_true,Bool.not_eq_true',List.contains_eq_mem,decide_eq_false_iff_not,decide_eq_true_eq]at k4
     exact⟨fun z hz=>⟨(k4.1 z hz).1,fun ht=>((k4.1 z hz).2.resolve_left (fun hn=>hn ht))⟩,k4.2⟩
    ·have:=k5 z hz
     rw[hd]at this
     simp only[Bool.or_eq_true,Bool.not_eq_true',List.contains_eq_mem,decide_eq_false_iff_not]at this
     exact this.resolve_left (fun hn=>hn ht)
    ·rcases k6 with k6|k6
     ·have Cr:y.2=true:=he
      rw[Cr]at k6;cases k6
     ·exact⟨k6.1,fun hm=>k6.2.resolve_left (fun hn=>hn hm)⟩
   ·cases h
theorem jF {P:Program}{n:Nat}{ops:Array Oper}{mu:Nat→Bool}{pre:List It}{y:Nat×Bool}{ord:List (Nat×Bool)}{jB:List It}(h:dK P n ops mu (eE ops.toList []) pre (y :: ord)=some jB) :
  ∃x l o,jB=x :: l∧Hd P n ops mu pre x o∧dK P n ops mu (eE ops.toList []) (pre++[x]) ord=some l:=by
 simp only[dK]at h
 split at h
 ·rename_i x hx
  simp only[Option.map_eq_some_iff]at h
  obtain⟨l,h1,rfl⟩:=h
  obtain⟨o,ho⟩:=Bu hx
  exact⟨x,l,o,rfl,ho,h1⟩
 ·cases h
theorem cU {P:Program}{n:Nat}{ops:Array Oper}{mu:Nat→Bool}:∀(ord:List (Nat×Bool)) (pre jB:List It),dK P n ops mu (eE ops.toList []) pre ord=some jB→∀i,i<ops.size→∃y∈pre++jB,y.i=i
 | [],pre,jB,h,i,hi=>by
  simp only[dK]at h
  split at h
  ·rename_i hk
   cases h
   simp only[List.all_eq_true,List.mem_range,List.any_eq_true,beq_iff_eq]at hk
   simpa using hk i hi
  ·cases h
 | y :: ord,pre,jB,h,i,hi=>by
  obtain⟨x,l,o,rfl,_,h2⟩:=jF h
  simpa using cU ord (pre++[x]) l h2 i hi
theorem dq {P:Program}{n:Nat}{ops:Array Oper}{mu:Nat→Bool}:∀(ord:List (Nat×Bool)) (pre jB:List It),dK P n ops mu (eE ops.toList []) pre ord=some jB→∀y∈jB,(∃o,ops[y.i]?=some o∧(∀j∈cz o,j<y.i))∧∀z∈pre,z.early=true∨((eE ops.toList []).getD y.i 0).testBit z.i=true
 | [],pre,jB,h,y,hy=>by
  simp only[dK]at h
  split at h
  ·cases h;cases hy
  ·cases h
 | u :: ord,pre,jB,h,y,hy=>by
  obtain⟨x,l,o,rfl,h1,h2⟩:=jF h
  rcases List.mem_cons.1 hy with rfl|hy
  ·exact⟨⟨o,h1.ho,fun j hj=>(h1.pred j hj).1⟩,h1.beh⟩
  ·obtain⟨h3,h4⟩:=dq ord (pre++[x]) l h2 y hy
   exact⟨h3,fun z hz=>h4 z (by simp[hz])⟩
theorem qE {b:Nat}{y:It}{d:Nat}{op:Bo}:∀(pre:List It),y∈pre→y.early=true→y.o.d=some d→y.o.op=.b op→qy op=.read→b.testBit y.i=false→⟨d,op,y.o.g⟩∈iQ b pre
 | [],h,_,_,_,_,_=>by cases h
 | z :: pre,h,h1,h2,h3,h4,h5=>by
  rcases List.mem_cons.1 h with rfl|h
  ·simp[iQ,h1,h2,h3,h4,h5]
  ·have ih:=qE pre h h1 h2 h3 h4 h5
   simp only[iQ]
   split
   ·split
    ·exact List.mem_cons_of_mem _ ih
    ·exact ih
   ·exact ih
theorem gQ {R R':ar}{y:It}(h:∀d,y.o.d=some d→R' d=R d):jE R' y=jE R y:=by
 unfold jE
 split
 ·rename_i d z h1 h2;simp only[h1,h2,h d h1]
 ·rename_i d h1 h2;simp only[h1,h2,h d h1]
 ·rfl
theorem sf.lt {g:Ctx}{N:Nat}{R:ar}{H:af}{y:It}(h:sf g N R H y){k:Nat}(hm:jE R y=some k):k<H.length:=by
 unfold jE at hm
 rcases h with⟨_,h2⟩|⟨_,d,b,h2,h3,h4⟩
 ·split at hm
  ·rename_i d z h1 _;rw[h2 d h1]at hm;cases hm
  ·rename_i d h1 _;rw[h2 d h1]at hm;cases hm
  ·cases hm
 ·rw[h2,h3]at hm
  rcases h4 with⟨hk,he⟩|⟨k',z,rfl,e1,e2,e3,e4⟩|⟨k',rfl,e1,e2,e3,e4⟩
  ·cases b<;>simp[qy]at hk hm
  ·simp only[e1,l6,Option.some.injEq]at hm;subst hm;exact(List.getElem?_eq_some_iff.1 e2).1
  ·simp only[e1,l6,Option.some.injEq]at hm;subst hm;exact(List.getElem?_eq_some_iff.1 e2).1
section
variable {P:Program} {n:Nat} {ops:Array Oper} {mu:Nat→Bool} {w0 w w' ws:World} {df:List Deferred} {mk:T} {g g' g0:Ctx} {H H0 H':af} {pre:List It} {L:Array Bool} {R:ar} {a:Act} {r:Option Nat} {x:It} {o:Oper}
theorem Dr.mw (h:Dr P n ops mu w0 df mk g0 ws H0 pre L g R H a w)(hd:Hd P n ops mu pre x o):L.getD x.i false=false:=by
 cases e:L.getD x.i false with
 | false=>rfl
 | true=>obtain⟨y,hy,e⟩:=h.sub x.i e;exact absurd e (hd.ne y hy)
theorem a9 {α:Type}{y x:α}{l:List α}(h:y∈l++[x]):y∈l∨y=x:=by simpa using h
theorem Dr.take (h:Dr P n ops mu w0 df mk g0 ws H0 pre L g R H a w)(hd:Hd P n ops mu pre x o)(he:x.early=true){t:T}(hp:sf g H0.length (bA R x.o.d t) H' x)
  (hH:H'=H∨∃B,H'=H++[B]∧((∃cs,B=.cells cs)∨∃es,B=.map es)) (hm:∀k,jE (bA R x.o.d t) x=some k→H.length≤k):Dr P n ops mu w0 df mk g0 ws H0 (pre++[x]) L g (bA R x.o.d t) H' a w:=by
 have Bv:=h.mw hd
 have fv:∀t:T,x.o.d≠some n:=fun _ e=>by
  obtain⟨op,gd,_,_,ML,_,Hi⟩:=br hd.co
  have U0:x.o.d=o.dst:=by rw[ML]
  exact Nat.lt_irrefl n (Hi n (U0▸e))
 have Ct:∀z∈pre,∀u∈z.ts,bA R x.o.d t u=R u:=fun z hz u hu=>cA fun e=>by
  obtain⟨h1,_⟩:=((hd.dst u e).1 z hz).2 hu
  rw[he]at h1;cases h1
 have Bw:∀z∈pre,∀d,z.o.d=some d→bA R x.o.d t d=R d:=fun z hz d pU=>cA fun e=>((hd.dst d e).1 z hz).1 pU
 have Wk:∃l,H'=H++l:=by
  rcases hH with rfl|⟨B,rfl,_⟩
  ·exact⟨[],by simp⟩
  ·exact⟨[B],rfl⟩
 obtain⟨l,hl⟩:=Wk
 have hpz:∀z∈pre,L.getD z.i false=false→sf g H0.length (bA R x.o.d t) H' z:=fun z hz hu=>by
  obtain⟨oz,_,_,Wl⟩:=h.cmp z hz
  obtain⟨t1,t2,_⟩:=gA Wl
  refine(h.ft z hz hu).mono (fun u hu=>Ct z hz u (t1 u hu)) (fun u hu=>Ct z hz u (t2 u hu)) (Bw z hz) (fun d b _ _ _ hk e=>?_) (fun k y _ hy _ hn _=>?_)
  ·subst hl;exact(sU hk e).2 l
  ·subst hl;exact⟨lu hy,hn⟩
 refine { yf:=h.yf,cmp:=?_,rd:=?_,dd:=?_,kl:=?_,uniq:=?_,sk:=?_,closed:=h.closed,sub:=fun i hi=>?_,qD:=?_,sr:=?_,le:=h.le,fr:=?_,vw:=h.vw,uu:=?_,ft:=?_,inj:=?_,KV:=h.KV,KW:=(by rw[cA (fv t)];exact h.KW) }
 ·intro y hy
  replace hy:=a9 hy;rcases hy with hy|rfl
  ·exact h.cmp y hy
  ·exact⟨o,hd.ho,⟨_,hd.co⟩,hd.ts⟩
 ·intro y hy z hz QI d pU MO
  replace hy:=a9 hy;rcases hy with hy|rfl
  ·replace hz:=a9 hz;rcases hz with hz|rfl
   ·exact h.rd y hy z hz QI d pU MO
   ·obtain⟨h1,_⟩:=((hd.dst d pU).1 y hy).2 MO
    rw[he]at h1;cases h1
  ·replace hz:=a9 hz;rcases hz with hz|rfl
   ·exact hd.Wj z hz d pU MO
   ·exact absurd MO (hd.dst d pU).2
 ·intro y hy z hz d I0 pU
  replace hy:=a9 hy;rcases hy with hy|rfl
  ·replace hz:=a9 hz;rcases hz with hz|rfl
   ·exact h.dd y hy z hz d I0 pU
   ·exact absurd I0 ((hd.dst d pU).1 y hy).1
  ·replace hz:=a9 hz;rcases hz with hz|rfl
   ·exact absurd pU ((hd.dst d I0).1 z hz).1
   ·rfl
 ·intro y hy zz o' mo
  replace hy:=a9 hy;rcases hy with hy|rfl
  ·exact h.kl y hy zz o' mo
  ·rw[hd.ho]at mo;cases mo;exact(hd.kl zz).2
 ·intro y hy z hz e
  replace hy:=a9 hy;rcases hy with hy|rfl
  ·replace hz:=a9 hz;rcases hz with hz|rfl
   ·exact h.uniq y hy z hz e
   ·exact absurd e (hd.ne y hy)
  ·replace hz:=a9 hz;rcases hz with hz|rfl
   ·exact absurd e.symm (hd.ne z hz)
   ·rfl
 ·intro y hy o' mo j hj
  replace hy:=a9 hy;rcases hy with hy|rfl
  ·exact h.sk y hy o' mo j hj
  ·rw[hd.ho]at mo;cases mo;exact(hd.pred j hj).1
 ·obtain⟨y,hy,e⟩:=h.sub i hi
  exact⟨y,by simp[hy],e⟩
 ·intro y hy zz
  replace hy:=a9 hy;rcases hy with hy|rfl
  ·exact h.qD y hy zz
  ·rw[he]at zz;cases zz
 ·rcases hH with rfl|⟨B,rfl,hB⟩
  ·exact h.sr
  ·exact h.sr.We hB
 ·subst hl;exact h.fr.trans (Fr.ext g H l)
 ·intro u hu gB
  rw[cA (gB x (by simp) Bv)]
  exact h.uu u hu fun y hy px=>gB y (by simp[hy]) px
 ·intro y hy px
  replace hy:=a9 hy;rcases hy with hy|rfl
  ·exact hpz y hy px
  ·exact hp
 ·intro y hy z hz px vS bF k hk kg
  replace hy:=a9 hy;rcases hy with hy|rfl
  ·rw[gQ (Bw y hy)]at hk
   replace hz:=a9 hz;rcases hz with hz|rfl
   ·rw[gQ (Bw z hz)]at kg
    exact h.inj y hy z hz px vS bF k hk kg
   ·have h1:=(h.ft y hy px).lt hk
    have h2:=hm k kg
    omega
  ·replace hz:=a9 hz;rcases hz with hz|rfl
   ·rw[gQ (Bw z hz)]at kg
    have h1:=(h.ft z hz vS).lt kg
    have h2:=hm k hk
    omega
   ·exact bF rfl
theorem Dr.both (h:Dr P n ops mu w0 df mk g0 ws H0 pre L g R H a w)(hd:Hd P n ops mu pre x o)(he:x.early=false)(hp:∀j∈cz o,L.getD j false=true){t:T}{v:Value}(le:Le g w g' w')(sr:SR w0 g' H' w')(hv:VR g' w' t v)(fr:Fr g H g' H')
  (hs:∀y∈pre,L.getD y.i false=false→∀d b,bL R y.o.g=true→y.o.d=some d→y.o.op=.b b→qy b=.read→ak R H b=some (R d,H)→ak R H' b=some (R d,H')) :
  Dr P n ops mu w0 df mk g0 ws H0 (pre++[x]) (L.setIfInBounds x.i true) g' (bA R x.o.d t) H' (a.put x.o.d v) w':=by
 have kC:x.i<L.size:=by rw[h.yf];exact(Array.getElem?_eq_some_iff.1 hd.ho).1
 have Mv:∀j∈cz o,j<x.i∧L.getD j false=true:=fun j hj=>⟨(hd.pred j hj).1,hp j hj⟩
 obtain⟨op,gd,PI,hgd,ML,Wf,Hi⟩:=br hd.co
 have U0:x.o.d=o.dst:=by rw[ML]
 have Wh:∀e,x.o.d=some e→e<a.tmps.size:=fun e h1=>by rw[h.vw];exact Hi e (U0▸h1)
 have Ct:∀z∈pre,L.getD z.i false=false→∀u∈z.ts,bA R x.o.d t u=R u:=fun z hz hu u hut=>cA fun e=>by
  obtain⟨_,h2⟩:=((hd.dst u e).1 z hz).2 hut
  rw[h.bit hd.ho Mv h2]at hu;cases hu
 have Bw:∀z∈pre,∀d,z.o.d=some d→bA R x.o.d t d=R d:=fun z hz d pU=>cA fun e=>((hd.dst d e).1 z hz).1 pU
 refine { yf:=(by simp[h.yf]),cmp:=?_,rd:=?_,dd:=?_,kl:=?_,uniq:=?_,sk:=?_,closed:=?_,sub:=?_,qD:=?_,sr:=sr,le:=h.le.trans le,fr:=h.fr.trans fr,vw:=(by rw[qC];exact h.vw),uu:=?_,ft:=?_,inj:=?_,KV:=(by rw[iR];exact h.KV),KW:=(by rw[cA (fun e=>Nat.lt_irrefl n (Hi n (U0▸e)))];exact h.KW) }
 ·intro y hy
  replace hy:=a9 hy;rcases hy with hy|rfl
  ·exact h.cmp y hy
  ·exact⟨o,hd.ho,⟨_,hd.co⟩,hd.ts⟩
 ·intro y hy z hz QI d pU MO
  replace hz:=a9 hz;rcases hz with hz|rfl
  ·replace hy:=a9 hy;rcases hy with hy|rfl
   ·exact h.rd y hy z hz QI d pU MO
   ·exact hd.Wj z hz d pU MO
  ·rw[he]at QI;cases QI
 ·intro y hy z hz d I0 pU
  replace hy:=a9 hy;rcases hy with hy|rfl
  ·replace hz:=a9 hz;rcases hz with hz|rfl
   ·exact h.dd y hy z hz d I0 pU
   ·exact absurd I0 ((hd.dst d pU).1 y hy).1
  ·replace hz:=a9 hz;rcases hz with hz|rfl
   ·exact absurd pU ((hd.dst d I0).1 z hz).1
   ·rfl
 ·intro y hy zz o' mo
  replace hy:=a9 hy;rcases hy with hy|rfl
  ·exact h.kl y hy zz o' mo
  ·rw[he]at zz;cases zz
 ·intro y hy z hz e
  replace hy:=a9 hy;rcases hy with hy|rfl
  ·replace hz:=a9 hz;rcases hz with hz|rfl
   ·exact h.uniq y hy z hz e
   ·exact absurd e (hd.ne y hy)
  ·replace hz:=a9 hz;rcases hz with hz|rfl
   ·exact absurd e.symm (hd.ne z hz)
   ·rfl
 ·intro y hy o' mo j hj
  replace hy:=a9 hy;rcases hy with hy|rfl
  ·exact h.sk y hy o' mo j hj
  ·rw[hd.ho]at mo;cases mo;exact(hd.pred j hj).1
 ·intro i oi yg yh j hj
  rw[dy kC]at yh ⊢
  by_cases e:x.i=i
  ·subst e
   rw[hd.ho]at yg;cases yg
   obtain⟨h1,h2⟩:=Mv j hj
   exact⟨h1,by split<;>simp[h2]⟩
  ·rw[if_neg e]at yh
   obtain⟨h1,h2⟩:=h.closed i oi yg yh j hj
   exact⟨h1,by split<;>simp[h2]⟩
 ·intro i yh
  rw[dy kC]at yh
  by_cases e:x.i=i
  ·exact⟨x,by simp,e⟩
  ·rw[if_neg e]at yh
   obtain⟨y,hy,e⟩:=h.sub i yh
   exact⟨y,by simp[hy],e⟩
 ·intro y hy zz
  rw[dy kC]
  split
  ·rfl
  ·rename_i bF
   replace hy:=a9 hy;rcases hy with hy|rfl
   ·exact h.qD y hy zz
   ·exact absurd rfl bF
 ·intro u hu gB
  rw[qB _ _ _ _ Wh]
  split
  ·rename_i e;rw[e,iC];exact hv
  ·rename_i e
   rw[cA e]
   exact(h.uu u hu fun y hy px=>gB y (by simp[hy]) (by rw[dy kC,if_neg (Ne.symm (hd.ne y hy))];exact px)).mono le
 ·intro y hy px
  rw[dy kC]at px
  split at px
  ·cases px
  ·rename_i bF
   replace hy:=a9 hy;rcases hy with hy|rfl
   ·obtain⟨oz,_,_,Wl⟩:=h.cmp y hy
    obtain⟨t1,t2,_⟩:=gA Wl
    exact(h.ft y hy px).mono (fun u hu=>Ct y hy px u (t1 u hu)) (fun u hu=>Ct y hy px u (t2 u hu)) (Bw y hy) (hs y hy px) (fun k z _ hz IZ hn _=>fr.2 k z hz IZ hn)
   ·exact absurd rfl bF
 ·intro y hy z hz px vS bF k hk kg
  rw[dy kC]at px vS
  split at px
  ·cases px
  ·split at vS
   ·cases vS
   ·rename_i hn1 IE
    replace hy:=a9 hy;rcases hy with hy|rfl
    ·replace hz:=a9 hz;rcases hz with hz|rfl
     ·rw[gQ (Bw y hy)]at hk
      rw[gQ (Bw z hz)]at kg
      exact h.inj y hy z hz px vS bF k hk kg
     ·exact absurd rfl IE
    ·exact absurd rfl hn1
theorem Dr.init (sr:SR w0 g H w)(hn:a.tmps.size=n)(vu:R n=mk)(hr:∀t,t<n→VR g w (R t) (a.tmps.getD t undef))(le:Le g0 ws g w)(fr:Fr g0 H0 g H):Dr P n ops mu w0 a.defers mk g0 ws H0 [] (Array.replicate ops.size false) g R H a w:=by
 have hf:∀i,(Array.replicate ops.size false).getD i false=false:=fun i=>by
  rw[Array.getD_eq_getD_getElem?,Array.getElem?_replicate];split<;>rfl
 refine { yf:=by simp,cmp:=(by simp),rd:=(by simp),dd:=(by simp),kl:=(by simp),uniq:=(by simp),sk:=(by simp),closed:=fun i o _ h=>?_,sub:=fun i h=>?_,qD:=(by simp),sr:=sr,le:=le,fr:=fr,vw:=hn,uu:=fun t ht _=>hr t ht,ft:=(by simp),inj:=(by simp),KV:=rfl,KW:=vu }
 ·rw[hf]at h;cases h
 ·rw[hf]at h;cases h
end
section
variable {P:Program} {w0 w:World} {g:Ctx} {H H':af} {R:ar} {a:Act} {n:Nat} {ops:Array Oper}
def jQ:Bo→Bool
 | .mP _ _ _ _=>true
 | _=>false
theorem gR {b:Bo}(h:jQ b=false){neg:Bool}{c:HI}{x y:X}:b≠.mP neg c x y:=by rintro rfl;cases h
theorem Ds {ty:TypeId}{x:X}{b:Bo}(h:sM P ty x=some b):jQ b=false:=by
 unfold sM at h;(repeat' split at h)<;>cases h<;>rfl
theorem sX {ty:TypeId}{x:X}{f:Nat}{ad:Bool}{b:Bo}(h:mr P ty x f ad=some b):jQ b=false:=by
 unfold mr at h;(repeat' split at h)<;>cases h<;>rfl
theorem zA {ty:TypeId}{x i:X}{ad:Bool}{b:Bo}(h:xZ P ty x i ad=some b):jQ b=false:=by
 unfold xZ at h;(repeat' split at h)<;>first|(cases h<;>rfl)|(simp only[Option.map_eq_some_iff]at h;obtain⟨_,_,h⟩:=h;cases h;rfl)
theorem Bx {ty:TypeId}{x:X}{lo hi mx:Option X}{b:Bo}(h:ou P ty x lo hi mx=some b):jQ b=false:=by
 unfold ou at h;(repeat' split at h)<;>cases h<;>rfl
theorem Dt {src dst:TypeId}{x:X}{b:Bo}(h:sN P src dst x=some b):jQ b=false:=by
 unfold sN at h;(repeat' split at h)<;>cases h<;>rfl
theorem yj {mu:Bool}{iw:List TypeId}{as:List X}{b:Bo}(h:lq P mu iw as=some b):jQ b=false:=by
 unfold lq at h;(repeat' split at h)<;>cases h<;>rfl
theorem I1 {iw:List TypeId}{as:List X}{b:Bo}(h:vV P iw as=some b):jQ b=false:=by
 unfold vV at h;(repeat' split at h)<;>cases h<;>rfl
theorem wq {mu:Bool}{bt:Builtin}{iw:List TypeId}{as:List X}{b:Bo}(h:jh P mu bt iw as=some b):jQ b=false:=by
 unfold jh at h
 split at h
 ·split at h
  ·rename_i b' hz;cases h;exact I1 hz
  ·exact yj h
 all_goals (repeat' split at h)<;>first|(cases h<;>rfl)|(simp only[Option.map_eq_some_iff]at h;obtain⟨_,_,h⟩:=h;cases h;rfl)
theorem Bz {ty:TypeId}{ps:List (Nat×X)}{b:Bo}(h:ov P ty ps=some b):jQ b=false:=by
 unfold ov at h;(repeat' split at h)<;>cases h<;>rfl
theorem I2 {mu:Bool}{ty:TypeId}{n:Nat}{ps:List (Nat×X)}{b:Bo}(h:Bl P mu ty n ps=some b):jQ b=false:=by
 cases mu<;>unfold Bl at h<;>(repeat' split at h)<;>cases h<;>rfl
theorem I3 {mu:Bool}{ty:TypeId}{l c:X}{b:Bo}(h:Bm P mu ty l c=some b):jQ b=false:=by
 unfold Bm at h;(repeat' split at h)<;>cases h<;>rfl
theorem yk {mu:Bool}{op:Op}{neg:Bool}{x y:X}(h:bE P mu op=some (.mP neg .slice x y)) :
  ∃PJ ty ox oy yt e,op=.binOp PJ ty ox oy yt∧aK ox=some x∧aK oy=some y∧P.underlying ty=some (.slice e)∧PJ=(if neg then .neq else .eql):=by
 cases op<;>simp only[bE,Option.map_eq_some_iff,Option.bind_eq_some_iff]at h
 case binOp PJ ty ox oy yt =>
  cases h1:aK ox with
  | none=>simp[h1]at h
  | some x'=>cases h2:aK oy with
   | none=>simp[h1,h2]at h
   | some y' =>
    simp only[h1,h2]at h
    unfold De at h
    split at h
    ·cases h
    ·cases h
    ·simp only[Option.map_eq_some_iff]at h;obtain⟨_,_,h⟩:=h;cases h
    ·split at h
     ·split at h<;>cases h
     ·cases h
    ·rename_i d _ _ _ _ hu
     split at h
     ·rename_i n' c hn lh
      cases h
      refine⟨PJ,ty,ox,oy,yt,?_⟩
      cases d<;>simp[cls]at lh
      exact⟨_,rfl,h1,h2,hu,by cases PJ<;>simp[isEq]at hn<;>subst hn<;>rfl⟩
     ·cases h
    ·cases h
 case load=>obtain⟨_,_,h⟩:=h;exact absurd rfl (gR (Ds h))
 case fieldAddr=>obtain⟨_,_,h⟩:=h;exact absurd rfl (gR (sX h))
 case field=>obtain⟨_,_,h⟩:=h;exact absurd rfl (gR (sX h))
 case indexAddr=>split at h;exact absurd rfl (gR (zA h));cases h
 case index=>split at h;exact absurd rfl (gR (zA h));cases h
 case slice=>split at h;exact absurd rfl (gR (Bx h));cases h
 case convert=>obtain⟨_,_,h⟩:=h;exact absurd rfl (gR (Dt h))
 case build=>obtain⟨_,_,h⟩:=h;exact absurd rfl (gR (Bz h))
 case buildSlice=>obtain⟨_,_,h⟩:=h;exact absurd rfl (gR (I2 h))
 case makeSlice=>split at h;exact absurd rfl (gR (I3 h));cases h
 case call c =>
  obtain⟨callee,args,iw⟩:=c
  cases callee
  case builtin=>simp only[bE,Option.bind_eq_some_iff]at h;obtain⟨_,_,h⟩:=h;exact absurd rfl (gR (wq h))
  case value cv =>
   cases cv<;>simp only[bE]at h<;>(try (cases h;done))
   split at h<;>cases h
  all_goals simp[bE]at h
 case makeMap t r=>cases r<;>simp[bE]at h
 case next it str=>cases str<;>simp[bE]at h
 case range ty m=>split at h;(simp only[Option.map_eq_some_iff]at h;obtain⟨_,_,h⟩:=h;cases h);cases h
 case makeFunc f first ke =>
  cases f<;>simp only[bE]at h
  case func f =>
   split at h
   ·simp only[Option.map_eq_some_iff]at h;obtain⟨_,_,h⟩:=h;cases h
   ·cases h
  all_goals cases h
 all_goals first
  | (cases h;done)
  | (obtain⟨_,_,h⟩:=h;cases h;done)
  | ((repeat' split at h)<;>first|(cases h;done)|(simp only[Option.map_eq_some_iff]at h;obtain⟨_,_,h⟩:=h;cases h;done))
  | (simp only[Option.map_eq_some_iff]at h;obtain⟨_,_,h⟩:=h;cases h)
  | skip
theorem BA {ty e:TypeId}{ox oy:Operand}{ad:Option Addr}{l p:Nat}{neg:Bool}(hu:P.underlying ty=some (.slice e)) :
  (do eqGuard (if neg then .neq else .eql) ty ox oy (.slice ad l p) (.slice none 0 0);binOp (if neg then .neq else .eql) ty (.slice ad l p) (.slice none 0 0)).run P w=.ok (.bool (if neg then !ad.isNone else ad.isNone)) w:=by
 have k1:∀op,(eqGuard op ty ox oy (.slice ad l p) (.slice none 0 0)).run P w=.ok () w:=fun op=>vJ
 have k2:(Op.equal ty (.slice ad l p) (.slice none 0 0)).run P w=.ok ad.isNone w:=fP fun n=>by
  rw[Op.equalIn];simp only[Sem.run_bind,run_underlying hu,Result.andThen_ok]
  cases ad<;>simp_all
 have k3:∀neg:Bool,(binOp (if neg then .neq else .eql) ty (.slice ad l p) (.slice none 0 0)).run P w=((Op.equal ty (.slice ad l p) (.slice none 0 0)).run P w).andThen fun b w'=>.ok (.bool (if neg then !b else b)) w':=fun neg=>by cases neg<;>simp[binOp]
 simp only[Sem.run_bind,k1,Result.andThen_ok,k3,k2]
theorem BB {r:Option Nat}{mu:Bool}{o:Oper}{neg:Bool}{x y:X}(hc:bM P mu o.op=some (.b (.mP neg .slice x y)))(hr:gy g w R a (eQ o.op.operands.toList))
  (hx:x.ev R=.sl .arg []) (hy:y.ev R=.sl .nil []):∃b:Bool,∀(K:Act→World→Prop) (Q:Exit→Act→World→Prop),K (a.put o.dst (.bool b)) w→o.wpIn (Fw r) 0 P a w K Q:=by
 have fv:=gG hc
 obtain⟨PJ,ty,ox,oy,yt,e,ho,h1,h2,hu,rfl⟩:=yk (ji hc)
 have hrv:=sW hr
 have v1:=hrv ox (by rw[ho];simp[Op.operands]) x h1
 have v2:=hrv oy (by rw[ho];simp[Op.operands]) y h2
 rw[hx]at v1
 rw[hy]at v2
 generalize h3:a.eval ox=vx at v1
 generalize h4:a.eval oy=vy at v2
 have e2:vy=.slice none 0 0:=by
  cases v2 with
  | slnil=>rfl
  | sl cQ hk=>exact hk.elim
 subst e2
 obtain⟨ad,l,p,rfl⟩:∃ad l p,vx=.slice ad l p:=by cases v1<;>exact⟨_,_,_,rfl⟩
 refine⟨if neg then !ad.isNone else ad.isNone,fun K Q hk=>⟨fun _ _=>trivial,?_⟩⟩
 rw[Oper.semAt_eq _ _ _ fv]
 have ct:(execOp a.eval o).run P w=.ok (.value (.bool (if neg then !ad.isNone else ad.isNone))) w:=by
  have:=BA (P:=P) (w:=w) (ox:=ox) (oy:=oy) (ad:=ad) (l:=l) (p:=p) (neg:=neg) hu
  simp only[execOp,ho,h3,h4]
  rw[Sem.run_bind,this]
  rfl
 rw[ct]
 exact hk
end
def gS (g:Ctx)(w:World)(n:Nat)(R:ar)(a:Act):Prop:=a.tmps.size=n∧∀t,t<n→VR g w (R t) (a.tmps.getD t undef)
def sm:Exit→Option Ex
 | .normal=>some .normal
 | .exit id=>some (.exit id)
 | .ret=>some .ret
 | _=>none
def yl (w0:World)(n:Nat)(df:List Deferred)(mk:T)(g:Ctx)(w:World)(H:af)(Q:Out→af→Prop):Exit→Act→World→Prop:=fun e a' w' =>
 ∃ex R' g' H',sm e=some ex∧Q (.ex ex R') H'∧Le g w g' w'∧SR w0 g' H' w'∧gS g' w' n R' a'∧Fr g H g' H'∧a'.defers=df∧R' n=mk
def sY (w0:World)(g:Ctx)(w:World)(H:af)(Q:T→af→Prop):Ending→World→Prop:=fun e w' =>
 ∃v t g' H',e=.returned v∧Q t H'∧Le g w g' w'∧SR w0 g' H' w'∧VR g' w' t v∧Fr g H g' H'
structure zB (P:Program)(E:Env):Prop where
 mixed:P.follows .mixedOrders=true
 fn:∀f fn,E.fn f=some fn→∃an,ai P an f=some fn
 ob:∀f as H Q,E.ob f as H Q→∀w0 g w args,SR w0 g H w→bD g w as args→dw P f=true∧CallsIn (Fw none) 0 P f args.toArray w (sY w0 g w H Q)
inductive wy (g:Ctx):List T→List Deferred→Prop
 | nil:wy g [] []
 | cons {b r o q ts df} (h:g.φ b=some (r,o,q)) (hs:wy g ts df):wy g (.ptr b 0 :: ts) ({ target:=.collected r,args:=#[] } :: df)
theorem wy.mono {g g':Ctx}{w w':World}(le:Le g w g' w'){ts:List T}{df:List Deferred}(h:wy g ts df):wy g' ts df:=by
 induction h with
 | nil=>exact .nil
 | cons h _ ih=>exact .cons (le.φ _ _ h) ih
def Mk (g:Ctx)(t:T)(df:List Deferred):Prop:=∃ts,t=.bN ts∧wy g ts df
theorem Mk.mono {g g':Ctx}{w w':World}(le:Le g w g' w'){t:T}{df:List Deferred}(h:Mk g t df):Mk g' t df:=let ⟨ts,e,h⟩:=h;⟨ts,e,h.mono le⟩
def kE (w0:World)(n:Nat)(hr:Bool)(df:List Deferred)(mk:T)(g:Ctx)(w:World)(H:af)(Q:Out→af→Prop):Exit→Act→World→Prop:=fun e a' w' =>
 ∃ex R' g' H',sm e=some ex∧Q (.ex ex R') H'∧Le g w g' w'∧SR w0 g' H' w'∧gS g' w' n R' a'∧Fr g H g' H'∧(Mk g mk df→Mk g' (R' n) a'.defers)∧(hr=false→R' n=mk∧a'.defers=df)
def fS (P:Program)(g:Ctx):Prop:=∀n c k,g.ck n c k↔∃an,bC P n an false k=some c
theorem fS.mono {P:Program}{g g':Ctx}{w w':World}(le:Le g w g' w')(h:fS P g):fS P g':=fun n c k=>by rw[le.ck];exact h n c k
def qF (F:Fence)(n:Nat)(P:Program)(c:Code)(Q:Exit→Act→World→Prop)(a:Act)(w:World):Prop :=
 ∀(b:Frame) (k:List Item) (cs:List Frame),b.roundOf=F.round→F.fn b.fn→F.room (cs.length+1+n) →
  ∃e a' w',Q e a' w'∧ArrivesIn (Machine.fenced P F) P (lone (b.atR a (.code c :: .inLoop c :: k)) cs w) b k cs e a' w'
theorem wz {F:Fence}{n:Nat}{P:Program}{c:Code}{Q:Exit→Act→World→Prop}{a:Act}{w:World}(h:c.wpIn F n P (Exit.then (qF F n P c Q) Q) a w):qF F n P c Q a w:=by
 intro b k cs U1 hb hr
 obtain⟨e,a₁,w₁,hq,ni⟩:=h b (.inLoop c :: k) cs U1 hb hr
 cases e with
 | normal =>
  obtain⟨e₂,a₂,w₂,hq₂,QJ⟩:=hq b k cs U1 hb hr
  exact⟨e₂,a₂,w₂,hq₂,.of_steps (StepsIn.trans ni (.one (fenced_calm hb hr rfl) stepR_inLoop)) QJ⟩
 | exit id=>exact⟨_,a₁,w₁,hq,.pass (x:=.inLoop c) rfl (fun _ _=>.inl (by simp)) ni⟩
 | goto l=>exact⟨_,a₁,w₁,hq,.pass (x:=.inLoop c) rfl (fun _ _=>.inl (by simp)) ni⟩
 | ret=>exact⟨_,a₁,w₁,hq,.pass (x:=.inLoop c) rfl (fun _ _=>.inl (by simp)) ni⟩
 | panic ch=>exact⟨_,a₁,w₁,hq,.pass (x:=.inLoop c) rfl (fun _ _=>.inl (by simp)) ni⟩
 | outgrown=>exact⟨_,a₁,w₁,hq,.pass (x:=.inLoop c) rfl (fun _ _=>.inl (by simp)) ni⟩
theorem BC {F:Fence}{n:Nat}{P:Program}{c:Code}{Q:Exit→Act→World→Prop}{a:Act}{w:World}(h:qF F n P c Q a w):(Code.loop c).wpIn F n P Q a w :=
 fun b k cs U1 hb hr=>let ⟨e,a',w',hq,ni⟩:=h b k cs U1 hb hr;⟨e,a',w',hq,.of_steps (.one (fenced_calm hb hr rfl) stepR_loop) ni⟩
section
variable {P:Program} {w0 w ws:World} {g g0:Ctx} {H H0 H':af} {R:ar} {a:Act} {n:Nat} {ops:Array Oper} {r:Option Nat} {mu:Bool} {i:Nat} {o:Oper} {st I4:List Rd}
theorem pg {y:O}(hc:fx P n ops mu o st=some y):∀t∈tmpsOf o y.op y.g,t<n:=by
 obtain⟨op,gd,_,_,rfl,h,_⟩:=br hc;exact h
theorem zC {d:Option Nat}{op:KL}{gd:Gd}(ho:ops[i]?=some o)(hc:fx P n ops mu o st=some ⟨d,op,gd,I4⟩)(hn:a.tmps.size=n)(hr:gy g w R a (tmpsOf o op gd))(hw:bL R gd=false)
  {K:Act→World→Prop} {Q:Exit→Act→World→Prop} (hk:K (a.put d undef) w):wpOpIn (Fw r) 0 P ops Q i K a w:=by
 obtain⟨MP,MQ,h1,h2,h3,h4,h5⟩:=br hc
 cases h3
 unfold wpOpIn
 simp only[ho,oE h2 hn (fun t ht=>h4 t (by simp[tmpsOf,ht])) (hr.sub fun t ht=>by simp[tmpsOf,ht]),hw]
 exact⟨fun _ _=>trivial,hk⟩
theorem gH {d:Option Nat}{op:KL}{gd:Gd}(ho:ops[i]?=some o)(hc:fx P n ops mu o st=some ⟨d,op,gd,I4⟩)(hn:a.tmps.size=n)(hr:gy g w R a (tmpsOf o op gd))(hw:bL R gd=true)
  {K:Act→World→Prop} {Q:Exit→Act→World→Prop} (hk:o.wpIn (Fw r) 0 P a w K Q):wpOpIn (Fw r) 0 P ops Q i K a w:=by
 obtain⟨MP,MQ,h1,h2,h3,h4,h5⟩:=br hc
 cases h3
 unfold wpOpIn
 simp only[ho,oE h2 hn (fun t ht=>h4 t (by simp[tmpsOf,ht])) (hr.sub fun t ht=>by simp[tmpsOf,ht]),hw,if_true]
 exact hk
theorem lz {op:KL}{gd:Gd}(hr:gy g w R a (tmpsOf o op gd)):gy g w R a (eQ o.op.operands.toList):=hr.sub fun t ht=>by simp[tmpsOf,ht]
theorem zD {d:Option Nat}{b:Bo}{gd:Gd}{t:T}(ho:ops[i]?=some o)(hc:fx P n ops mu o st=some ⟨d,.b b,gd,I4⟩)(hn:a.tmps.size=n)(hr:gy g w R a (tmpsOf o (.b b) gd))(hw:bL R gd=true)
  (h:SR w0 g H w) (he:ak R H b=some (t,H')) :
  ∃v w' g',(∀(K:Act→World→Prop) (Q:Exit→Act→World→Prop),K (a.put d v) w'→wpOpIn (Fw r) 0 P ops Q i K a w)∧Le g w g' w'∧SR w0 g' H' w'∧VR g' w' t v∧Fr g H g' H':=by
 obtain⟨MP,MQ,h1,h2,h3,h4,h5⟩:=br hc
 cases h3
 obtain⟨v,w',g',hs,rest⟩:=Dm (r:=r) h1 h (lz hr) he
 exact⟨v,w',g',fun K Q hk=>gH ho hc hn hr hw (hs K Q hk),rest⟩
theorem wB {d:Option Nat}{x:X}{gd:Gd}{b bi:Nat}{es:List (T×T)}{ix:List Nat}{cur:Option Nat}(ho:ops[i]?=some o)(hc:fx P n ops mu o st=some ⟨d,.b (.pI x),gd,I4⟩)(hn:a.tmps.size=n)(hr:gy g w R a (tmpsOf o (.b (.pI x)) gd))(hw:bL R gd=true)
  (h:SR w0 g H w) (hx:x.ev R=.ptr bi 0) (hb:H[b]?=some (.cP es ix bi cur)) :
  ∃t H' v w' g',mZ H b bi es ix t H'∧(∀(K:Act→World→Prop) (Q:Exit→Act→World→Prop),K (a.put d v) w'→wpOpIn (Fw r) 0 P ops Q i K a w)∧Le g w g' w'∧SR w0 g' H' w'∧VR g' w' t v∧Fr g H g' H':=by
 obtain⟨MP,MQ,h1,h2,h3,h4,h5⟩:=br hc
 cases h3
 obtain⟨t,H',v,w',g',IZ,hs,rest⟩:=Dn (r:=r) h1 h (lz hr) hx hb
 exact⟨t,H',v,w',g',IZ,fun K Q hk=>gH ho hc hn hr hw (hs K Q hk),rest⟩
theorem sZ {d:Option Nat}{neg:Bool}{x y:X}{gd:Gd}(ho:ops[i]?=some o)(hc:fx P n ops mu o st=some ⟨d,.b (.mP neg .slice x y),gd,I4⟩)(hn:a.tmps.size=n)(hr:gy g w R a (tmpsOf o (.b (.mP neg .slice x y)) gd))(hw:bL R gd=true)
  (hx:x.ev R=.sl .arg []) (hy:y.ev R=.sl .nil []):∃b:Bool,∀(K:Act→World→Prop) (Q:Exit→Act→World→Prop),K (a.put d (.bool b)) w→wpOpIn (Fw r) 0 P ops Q i K a w:=by
 obtain⟨MP,MQ,h1,h2,h3,h4,h5⟩:=br hc
 cases h3
 obtain⟨b,hs⟩:=BB (r:=r) h1 (lz hr) hx hy
 exact⟨b,fun K Q hk=>gH ho hc hn hr hw (hs K Q hk)⟩
theorem s7 {d:Option Nat}{f:Nat}{as:List X}{gd:Gd}{M:T→af→Prop}(ho:ops[i]?=some o)(hc:fx P n ops mu o st=some ⟨d,.call f as,gd,I4⟩)(hn:a.tmps.size=n)(hr:gy g w R a (tmpsOf o (.call f as) gd))(hw:bL R gd=true)
  (ih:∀args,bD g w (as.map (X.ev R)) args→dw P f=true∧CallsIn (Fw none) 0 P f args.toArray w (sY w0 g w H M)) {K:Act→World→Prop} {Q:Exit→Act→World→Prop}
  (hk:∀v w' g' H' t,M t H'→Le g w g' w'→SR w0 g' H' w'→VR g' w' t v→Fr g H g' H'→K (a.put d v) w'):wpOpIn (Fw r) 0 P ops Q i K a w:=by
 obtain⟨MP,MQ,h1,h2,h3,h4,h5⟩:=br hc
 cases h3
 obtain⟨args,hv,hs⟩:=Bs (r:=r) h1 (lz hr)
 obtain⟨k1,k2⟩:=ih args hv
 exact gH ho hc hn hr hw (hs K Q k1 (k2.mono fun e w' ⟨v,t,g',H',he,hM,le,sr,fD,fr⟩=>⟨v,he,hk v w' g' H' t hM le sr fD fr⟩))
theorem qG {d:Option Nat}{x:X}{f:Nat}{cs:List T}{as:List X}{gd:Gd}{M:T→af→Prop}(ho:ops[i]?=some o)(hc:fx P n ops mu o st=some ⟨d,.bB x as,gd,I4⟩)(hn:a.tmps.size=n)(hr:gy g w R a (tmpsOf o (.bB x as) gd))(hw:bL R gd=true)
  (hx:x.ev R=.fn f cs) (ih:∀args,bD g w (as.map (X.ev R)++cs) args→dw P f=true∧CallsIn (Fw none) 0 P f args.toArray w (sY w0 g w H M)) {K:Act→World→Prop} {Q:Exit→Act→World→Prop}
  (hk:∀v w' g' H' t,M t H'→Le g w g' w'→SR w0 g' H' w'→VR g' w' t v→Fr g H g' H'→K (a.put d v) w'):wpOpIn (Fw r) 0 P ops Q i K a w:=by
 obtain⟨MP,MQ,h1,h2,h3,h4,h5⟩:=br hc
 cases h3
 obtain⟨args,hv,hs⟩:=ye (r:=r) h1 (lz hr) hx
 obtain⟨k1,k2⟩:=ih args hv
 exact gH ho hc hn hr hw (hs K Q k1 (k2.mono fun e w' ⟨v,t,g',H',he,hM,le,sr,fD,fr⟩=>⟨v,he,hk v w' g' H' t hM le sr fD fr⟩))
theorem gS.put {d:Option Nat}{v:Value}{t:T}{w':World}{g':Ctx}(h:gS g w n R a)(hd:∀e,d=some e→e<n)(le:Le g w g' w')(hv:VR g' w' t v):gS g' w' n (bA R d t) (a.put d v):=by
 refine⟨by rw[qC];exact h.1,fun u hu=>?_⟩
 rw[qB _ _ _ _ (by rw[h.1];exact hd)]
 split
 ·rename_i e;rw[e,iC];exact hv
 ·rename_i e;rw[cA e];exact(h.2 u hu).mono le
theorem gS.rg (h:gS g w n R a){ts:List Nat}(ht:∀t∈ts,t<n):gy g w R a ts:=fun t hm=>h.2 t (ht t hm)
end
section
variable {P:Program} {n:Nat} {ops:Array Oper} {mu:Nat→Bool} {w0 ws:World} {df:List Deferred} {mk:T} {g0:Ctx} {H0:af} {pre:List It} {r:Option Nat} {x:It} {o:Oper} {Q:Out→af→Prop}
def left (L:Array Bool):Nat:=L.toList.count false
theorem qH {L:Array Bool}{i:Nat}(hi:i<L.size)(hf:L.getD i false=false):left (L.setIfInBounds i true)+1=left L:=by
 unfold left
 rw[Array.toList_setIfInBounds,List.count_set (by simpa using hi)]
 have hg:L.toList[i]'(by simpa using hi)=false:=by
  rw[Array.getD_eq_getD_getElem?,Array.getElem?_eq_getElem hi,Option.getD_some]at hf
  simpa using hf
 have MA:0<L.toList.count false:=List.count_pos_iff.2 (hg▸List.getElem_mem _)
 rw[hg]
 have e1:((false==false:Bool)=true):=rfl
 have e2:¬((true==false:Bool)=true):=by decide
 rw[if_pos e1,if_neg e2]
 omega
theorem s9 {L:Array Bool}(h:left L=0){i:Nat}(hi:i<L.size):L.getD i false=true:=by
 cases e:L.getD i false with
 | true=>rfl
 | false=>have:=qH hi e;omega
theorem ta {L:Array Bool}(a7:L.size=ops.size)(MG:∀i o,ops[i]?=some o→∀j∈cz o,j<i)(h:Region.ready .any ops L=[]):∀i,i<ops.size→L.getD i false=true:=by
 intro i
 induction i using Nat.strongRecOn with
 | _ i ih =>
  intro hi
  cases e:L.getD i false with
  | true=>rfl
  | false =>
   have:i∈Region.ready .any ops L:=by
    rw[mem_ready]
    refine⟨?_,ops[i],Array.getElem?_eq_getElem hi,fun ed he hb=>?_⟩
    ·have jU:i<L.size:=by omega
     rw[Array.getD_eq_getD_getElem?,Array.getElem?_eq_getElem jU]at e ⊢;exact e
    ·have hj:ed.on∈cz ops[i]:=by simp only[cz,List.mem_map,List.mem_filter];exact⟨ed,⟨by simpa using he,hb⟩,rfl⟩
     have:=MG i _ (Array.getElem?_eq_getElem hi) _ hj
     exact ih _ this (by omega)
   rw[h]at this;cases this
theorem BD {R:ar}{H:af}(cn:∀i,i<ops.size→∃y∈pre,y.i=i)(hQ:Q (.ex .normal R) H):∀(fuel:Nat) (L:Array Bool) (g:Ctx) (a:Act) (w:World),left L≤fuel→Dr P n ops mu w0 df mk g0 ws H0 pre L g R H a w →
  wpAnyIn (Fw r) 0 P .any ops (yl w0 n df mk g0 ws H0 Q) fuel L a w:=by
 have fin:∀(L:Array Bool) (g:Ctx) (a:Act) (w:World),Dr P n ops mu w0 df mk g0 ws H0 pre L g R H a w→(∀i,i<ops.size→L.getD i false=true)→yl w0 n df mk g0 ws H0 Q .normal a w:=by
  intro L g a w h hl
  refine⟨.normal,R,g,H,rfl,hQ,h.le,h.sr,⟨h.vw,fun t ht=>h.uu t ht fun y hy hu=>?_⟩,h.fr,h.KV,h.KW⟩
  obtain⟨o,ho,_⟩:=h.cmp y hy
  rw[hl y.i (Array.getElem?_eq_some_iff.1 ho).1]at hu;cases hu
 have MG:∀(L:Array Bool) (g:Ctx) (a:Act) (w:World),Dr P n ops mu w0 df mk g0 ws H0 pre L g R H a w→∀i o,ops[i]?=some o→∀j∈cz o,j<i:=by
  intro L g a w h i o ho
  obtain⟨y,hy,rfl⟩:=cn i (Array.getElem?_eq_some_iff.1 ho).1
  exact h.sk y hy o ho
 intro fuel
 induction fuel with
 | zero =>
  intro L g a w hL h
  have hl:∀i,i<ops.size→L.getD i false=true:=fun i hi=>s9 (by omega) (by rw[h.yf];exact hi)
  refine⟨?_,fin L g a w h hl⟩
  refine List.eq_nil_iff_forall_not_mem.2 fun i hi=>?_
  obtain⟨h1,o,h2,_⟩:=lx hi
  rw[hl i (Array.getElem?_eq_some_iff.1 h2).1]at h1;cases h1
 | succ fuel ih =>
  intro L g a w hL h
  refine⟨fun hr=>fin L g a w h (ta h.yf (MG L g a w h) hr),fun i hi=>?_⟩
  obtain⟨h1,o,h2,_⟩:=lx hi
  have ax:=(Array.getElem?_eq_some_iff.1 h2).1
  obtain⟨y,hy,rfl⟩:=cn i ax
  obtain⟨v,w',g',hs,hd⟩:=h.late (r:=r) hy hi
  have:=qH (by rw[h.yf];exact ax) h1
  exact hs _ _ (ih _ _ _ _ (by omega) hd)
theorem eR {R:ar}{H:af}{Tl:ar→af→Prop}{Qx:Exit→Act→World→Prop}{l:List It}(hd:Hd P n ops mu pre x o)(hx:x.early=false)(cn:∀i,i<ops.size→∃y∈pre++x :: l,y.i=i)
  (QK:∀y∈l,(∃o,ops[y.i]?=some o∧(∀j∈cz o,j<y.i))∧∀z∈pre++[x],z.early=true∨((eE ops.toList []).getD y.i 0).testBit z.i=true)
  (hT:∀R' H',Tl R' H'→∀fuel L' g' a' w',left L'≤fuel→Dr P n ops mu w0 df mk g0 ws H0 (pre++[x]) L' g' R' H' a' w'→wpAnyIn (Fw r) 0 P .any ops Qx fuel L' a' w')
  (hX:∀L g a w,Dr P n ops mu w0 df mk g0 ws H0 pre L g R H a w→(∀j∈cz o,L.getD j false=true)→∀K:Act→World→Prop,
   (∀R' H' g' a' w',Tl R' H'→Dr P n ops mu w0 df mk g0 ws H0 (pre++[x]) (L.setIfInBounds x.i true) g' R' H' a' w'→K a' w')→wpOpIn (Fw r) 0 P ops Qx x.i K a w) :
  ∀(fuel:Nat) (L:Array Bool) (g:Ctx) (a:Act) (w:World),left L≤fuel→Dr P n ops mu w0 df mk g0 ws H0 pre L g R H a w→wpAnyIn (Fw r) 0 P .any ops Qx fuel L a w:=by
 have G9:x.i<ops.size:=(Array.getElem?_eq_some_iff.1 hd.ho).1
 intro fuel
 induction fuel with
 | zero =>
  intro L g a w hL h
  have h1:=h.mw hd
  rw[s9 (by omega) (by rw[h.yf];exact G9)]at h1;cases h1
 | succ fuel ih =>
  intro L g a w hL h
  have CT:=h.mw hd
  refine⟨fun hr=>?_,fun i hi=>?_⟩
  ·have hl:=ta h.yf (fun i o' mo j hj=>?_) hr x.i G9
   ·rw[hl]at CT;cases CT
   ·obtain⟨y,hy,rfl⟩:=cn i (Array.getElem?_eq_some_iff.1 mo).1
    rcases List.mem_append.1 hy with hy|hy
    ·exact h.sk y hy o' mo j hj
    ·rcases List.mem_cons.1 hy with rfl|hy
     ·rw[hd.ho]at mo;cases mo;exact(hd.pred j hj).1
     ·obtain⟨⟨o2,h2,h3⟩,_⟩:=QK y hy
      rw[h2]at mo;cases mo;exact h3 j hj
  ·obtain⟨h1,o',h2,h3⟩:=lx hi
   have ax:=(Array.getElem?_eq_some_iff.1 h2).1
   have ab2:=qH (by rw[h.yf];exact ax) h1
   obtain⟨y,hy,rfl⟩:=cn i ax
   rcases List.mem_append.1 hy with hy|hy
   ·obtain⟨v,w',g',hs,Wm⟩:=h.late (r:=r) hy hi
    exact hs _ _ (ih _ _ _ _ (by omega) Wm)
   ·rcases List.mem_cons.1 hy with rfl|hy
    ·rw[hd.ho]at h2;cases h2
     exact hX L g a w h h3 _ fun R' H' g' a' w' ht Wm=>hT R' H' ht fuel _ g' a' w' (by omega) Wm
    ·obtain⟨⟨o2,h4,h5⟩,h6⟩:=QK y hy
     rw[h2]at h4;cases h4
     rcases h6 x (by simp)with h7|h7
     ·rw[hx]at h7;cases h7
     ·have:=h.bit h2 (fun j hj=>⟨h5 j hj,h3 j hj⟩) h7
      rw[CT]at this;cases this
end
def Wn (P : Program) : J → af → (Out → af → Prop) → Prop
  | .code c R, H, Q => ∀(w0 : World) (g : Ctx) (w : World) (a : Act) (n : Nat) (an : An) (top : Bool) (code : Code) (r : Option Nat), bC P n an top code = some c → (top = true → r = none) → fS P g → SR w0 g H w → gS g w n R a →
      code.wpIn (Fw r) 0 P (kE w0 n c.lP a.defers (R n) g w H Q) a w ∧ ∀body, code = .loop body → qF (Fw r) 0 P body (kE w0 n c.lP a.defers (R n) g w H Q) a w
  | .ops l R, H, Q => (∀(w0 : World) (g0 : Ctx) (ws : World) (H0 : af) (g : Ctx) (w : World) (a : Act) (n : Nat) (ops : Array Oper) (mu : Nat → Bool) (is : List Nat) (r : Option Nat), fM P n ops mu is = some l → fS P g → SR w0 g H w → gS g w n R a →
        Le g0 ws g w → Fr g0 H0 g H → wpOpsIn (Fw r) 0 P ops (yl w0 n a.defers (R n) g0 ws H0 Q) is a w) ∧
      (∀(w0 : World) (n : Nat) (ops : Array Oper) (mu : Nat → Bool) (df : List Deferred) (mk : T) (g0 : Ctx) (ws : World) (H0 : af) (pre : List It) (L : Array Bool) (g : Ctx) (a : Act) (w : World) (ord : List (Nat×Bool)) (jB : List It) (r : Option Nat) (fuel : Nat),
        fS P g → dK P n ops mu (eE ops.toList []) pre ord = some jB → jB.map (·.o) = l → Dr P n ops mu w0 df mk g0 ws H0 pre L g R H a w → left L ≤ fuel → wpAnyIn (Fw r) 0 P .any ops (yl w0 n df mk g0 ws H0 Q) fuel L a w)
  | .call f as, H, Q => ∀(w0 : World) (g : Ctx) (w : World) (args : List Value), fS P g → SR w0 g H w → bD g w as args → dw P f = true ∧ CallsIn (Fw none) 0 P f args.toArray w (sY w0 g w H fun v H' => Q (.val v) H')
theorem kE.trans {w0 w w':World}{n:Nat}{hr n5:Bool}{df Wo:List Deferred}{mk mk':T}{g g':Ctx}{H H':af}{Q:Out→af→Prop}(le:Le g w g' w')(fr:Fr g H g' H')(hm:Mk g mk df→Mk g' mk' Wo)(hh:hr=false→n5=false∧mk'=mk∧Wo=df)
  {e:Exit} {a:Act} {u:World} (h:kE w0 n n5 Wo mk' g' w' H' Q e a u):kE w0 n hr df mk g w H Q e a u:=by
 obtain⟨ex,R',g2,H2,h1,h2,h3,h4,h5,h6,h7,h8⟩:=h
 refine⟨ex,R',g2,H2,h1,h2,le.trans h3,h4,h5,fr.trans h6,fun m=>h7 (hm m),fun e=>?_⟩
 obtain⟨k1,k2,k3⟩:=hh e
 obtain⟨k4,k5⟩:=h8 k1
 exact⟨k4.trans k2,k5.trans k3⟩
theorem yl.toC {w0 w:World}{n:Nat}{hr:Bool}{df:List Deferred}{mk:T}{g:Ctx}{H:af}{Q:Out→af→Prop}{e:Exit}{a:Act}{u:World}(h:yl w0 n df mk g w H Q e a u):kE w0 n hr df mk g w H Q e a u:=by
 obtain⟨ex,R',g2,H2,h1,h2,h3,h4,h5,h6,h7,h8⟩:=h
 exact⟨ex,R',g2,H2,h1,h2,h3,h4,h5,h6,fun m=>by rw[h7,h8];exact m.mono h3,fun _=>⟨h8,h7⟩⟩
section
variable {P:Program} {n:Nat} {an:An} {top:Bool} {code:Code}
theorem Du (h:bC P n an top code=some .skip):code=.skip:=by
 cases code<;>(try simp only[bC]at h)
 case region id ops draw=>cases draw<;>simp only[bC]at h<;>(repeat' split at h)<;>simp at h
 all_goals first|rfl|(cases h;done)|((repeat' split at h)<;>simp at h;done)|(simp at h;done)
theorem Dv {id:Nat}(h:bC P n an top code=some (.exit id)):code=.exit id:=by
 cases code<;>(try simp only[bC]at h)
 case region id ops draw=>cases draw<;>simp only[bC]at h<;>(repeat' split at h)<;>simp at h
 all_goals first|(cases h;rfl)|(cases h;done)|((repeat' split at h)<;>simp at h;done)|(simp at h;done)
theorem I5 (h:bC P n an top code=some .ret):code=.ret:=by
 cases code<;>(try simp only[bC]at h)
 case region id ops draw=>cases draw<;>simp only[bC]at h<;>(repeat' split at h)<;>simp at h
 all_goals first|rfl|(cases h;done)|((repeat' split at h)<;>simp at h;done)|(simp at h;done)
theorem I6 {x y:C}(h:bC P n an top code=some (.seq x y)):∃c d,code=.seq c d∧bC P n an top c=some x∧bC P n an top d=some y:=by
 cases code<;>(try simp only[bC]at h)
 case region id ops draw=>cases draw<;>simp only[bC]at h<;>(repeat' split at h)<;>simp at h
 case seq c d =>
  split at h
  ·rename_i h1 h2;cases h;exact⟨c,d,rfl,h1,h2⟩
  ·cases h
 all_goals first|(cases h;done)|((repeat' split at h)<;>simp at h;done)|(simp at h;done)
theorem Dw {c:X}{x y:C}(h:bC P n an top code=some (.cond c x y)):∃o d e,code=.cond o d e∧aK o=some c∧bC P n an top d=some x∧bC P n an top e=some y∧∀t,o=.tmp t→t<n:=by
 cases code<;>(try simp only[bC]at h)
 case region id ops draw=>cases draw<;>simp only[bC]at h<;>(repeat' split at h)<;>simp at h
 case cond o d e =>
  split at h
  ·rename_i h1 h2 h3
   cases o with
   | tmp t =>
    simp only[decide_eq_true_eq]at h
    split at h
    ·rename_i h4;cases h;exact⟨_,d,e,rfl,h1,h2,h3,fun t' ht=>by cases ht;exact h4⟩
    ·cases h
   | _=>simp at h;obtain⟨rfl,rfl,rfl⟩:=h;exact⟨_,d,e,rfl,h1,h2,h3,fun t ht=>by cases ht⟩
  ·cases h
 all_goals first|(cases h;done)|((repeat' split at h)<;>simp at h;done)|(simp at h;done)
theorem BE {id:Nat}{x:C}(h:bC P n an top code=some (.block id x)):∃c,code=.block id c∧bC P n an top c=some x:=by
 cases code<;>(try simp only[bC]at h)
 case region id ops draw=>cases draw<;>simp only[bC]at h<;>(repeat' split at h)<;>simp at h
 case block id' c =>
  simp only[Option.map_eq_some_iff]at h
  obtain⟨x',h1,h2⟩:=h
  cases h2;exact⟨c,rfl,h1⟩
 all_goals first|(cases h;done)|((repeat' split at h)<;>simp at h;done)|(simp at h;done)
theorem Dx {x:C}(h:bC P n an top code=some (.loop x)):∃c,code=.loop c∧bC P n an top c=some x:=by
 cases code<;>(try simp only[bC]at h)
 case region id ops draw=>cases draw<;>simp only[bC]at h<;>(repeat' split at h)<;>simp at h
 case loop c =>
  simp only[Option.map_eq_some_iff]at h
  obtain⟨x',h1,h2⟩:=h
  cases h2;exact⟨c,rfl,h1⟩
 all_goals first|(cases h;done)|((repeat' split at h)<;>simp at h;done)|(simp at h;done)
theorem BF {m:Nat}{x:X}{ps:List Nat}{y z:C}(h:bC P n an top code=some (.cI m x ps y z)):∃g qs c d,code=.rangeFunc g qs c d∧aK g=some x∧bC P n an false c=some y∧bC P n an false d=some z∧top=true∧(∀t∈dJ x,t<n)∧qs.toList=ps∧(∀p∈ps,p<n)∧m=n:=by
 cases code<;>(try simp only[bC]at h)
 case region id ops draw=>cases draw<;>simp only[bC]at h<;>(repeat' split at h)<;>simp at h
 case rangeFunc g qs c d =>
  split at h
  ·rename_i h1 h2 h3
   split at h
   ·rename_i h4
    cases h
    simp only[Bool.and_eq_true,List.all_eq_true,decide_eq_true_eq]at h4
    exact⟨g,qs,c,d,rfl,h1,h2,h3,h4.1.1,h4.1.2,rfl,h4.2,rfl⟩
   ·cases h
  ·cases h
 all_goals first|(cases h;done)|((repeat' split at h)<;>simp at h;done)|(simp at h;done)
theorem I7 {l:List O}(h:bC P n an top code=some (.ops l)):∃id ops mu,(code=.region id ops false∧fM P n ops mu (List.range ops.size)=some l) ∨
  (code=.region id ops true∧∃ord jB,dK P n ops mu (eE ops.toList []) [] ord=some jB∧jB.map (·.o)=l):=by
 cases code<;>(try simp only[bC]at h)
 case region id ops draw =>
  cases draw<;>simp only[bC]at h
  ·simp only[Option.map_eq_some_iff]at h
   obtain⟨l',h1,h2⟩:=h
   cases h2;exact⟨id,ops,_,.inl ⟨rfl,h1⟩⟩
  ·split at h
   ·rename_i ord _
    simp only[Option.map_eq_some_iff]at h
    obtain⟨jB,h1,h2⟩:=h
    cases h2;exact⟨id,ops,_,.inr ⟨rfl,ord,jB,h1,rfl⟩⟩
   ·cases h
 all_goals first|(cases h;done)|((repeat' split at h)<;>simp at h;done)|(simp at h;done)
end
theorem du {P:Program}{n:Nat}{ops:Array Oper}{mu:Nat→Bool}{is:List Nat}{o:O}{l:List O}(h:fM P n ops mu is=some (o :: l)) :
  ∃i te oper,is=i :: te∧ops[i]?=some oper∧fx P n ops (mu i) oper []=some o∧fM P n ops mu te=some l:=by
 cases is with
 | nil=>simp[fM]at h
 | cons i te =>
  simp only[fM]at h
  split at h
  ·rename_i oper ho
   split at h
   ·rename_i h1 h2;cases h;exact⟨i,te,oper,rfl,ho,h1,h2⟩
   ·cases h
  ·cases h
theorem wC {P:Program}{n:Nat}{ops:Array Oper}{mu:Nat→Bool}{is:List Nat}(h:fM P n ops mu is=some []):is=[]:=by
 cases is with
 | nil=>rfl
 | cons i te =>
  simp only[fM]at h
  split at h
  ·split at h<;>simp at h
  ·cases h
theorem gT {P:Program}{n:Nat}{ops:Array Oper}{mu:Nat→Bool}{pre:List It}{ord:List (Nat×Bool)}{jB:List It}{o:O}{l:List O}(h:dK P n ops mu (eE ops.toList []) pre ord=some jB)(hm:jB.map (·.o)=o :: l) :
  ∃x l' fH oper,jB=x :: l'∧x.o=o∧l'.map (·.o)=l∧Hd P n ops mu pre x oper∧dK P n ops mu (eE ops.toList []) (pre++[x]) fH=some l':=by
 cases ord with
 | nil =>
  simp only[dK]at h
  split at h
  ·cases h;simp at hm
  ·cases h
 | cons y fH =>
  obtain⟨x,l',oper,rfl,h1,h2⟩:=jF h
  simp only[List.map_cons,List.cons.injEq]at hm
  exact⟨x,l',fH,oper,rfl,hm.1,hm.2,h1,h2⟩
section
variable {P:Program} {n:Nat} {ops:Array Oper} {mu:Nat→Bool} {w0 w ws:World} {df:List Deferred} {mk:T} {g g0:Ctx} {H H0 H':af} {pre:List It} {L:Array Bool} {R:ar} {a:Act} {r:Option Nat} {x:It} {o:Oper}
theorem Hd.sub (hd:Hd P n ops mu pre x o)(v:T):(∀t∈l3 x.o.g,bA R x.o.d v t=R t)∧∀t∈zy x.o.op,bA R x.o.d v t=R t:=by
 obtain⟨t1,t2,_⟩:=gA hd.ts
 exact⟨fun t ht=>cA fun e=>(hd.dst t e).2 (t1 t ht),fun t ht=>cA fun e=>(hd.dst t e).2 (t2 t ht)⟩
theorem Dr.I8 (h:Dr P n ops mu w0 df mk g0 ws H0 pre L g R H a w)(hd:Hd P n ops mu pre x o)(he:x.early=true)(hw:bL R x.o.g=false):Dr P n ops mu w0 df mk g0 ws H0 (pre++[x]) L g (bA R x.o.d bX) H a w:=by
 refine h.take hd he (.inl ⟨?_,fun d e=>by rw[e,iC]⟩) (.inl rfl) fun k hk=>?_
 ·rw[kD (R':=R) (hd.sub bX).1];exact hw
 ·unfold jE at hk
  split at hk
  ·rename_i e _;rw[e,iC]at hk;cases hk
  ·rename_i e _;rw[e,iC]at hk;cases hk
  ·cases hk
theorem Dr.I9 {b:Bo}{v:T}(h:Dr P n ops mu w0 df mk g0 ws H0 pre L g R H a w)(hd:Hd P n ops mu pre x o)(he:x.early=true)(hb:x.o.op=.b b)(hw:bL R x.o.g=true)(hv:ak R H b=some (v,H')) :
  Dr P n ops mu w0 df mk g0 ws H0 (pre++[x]) L g (bA R x.o.d v) H' a w:=by
 obtain⟨k1,k2⟩:=hd.kl he
 cases Ja:x.o.d with
 | none=>exact absurd (by simp[Hg,hb,Ja]) k1
 | some d =>
  have U2:Hg x.o=qy b:=by simp[Hg,hb,Ja]
  rw[U2]at k1 k2
  have Bf:bL (bA R x.o.d v) x.o.g=true:=by rw[kD (R':=R) (hd.sub v).1];exact hw
  have Jb:∀H2,ak (bA R x.o.d v) H2 b=ak R H2 b:=fun H2=>qA fun t ht=>(hd.sub v).2 t (by rw[hb];exact ht)
  have MR:bA R x.o.d v d=v:=by rw[Ja,iC]
  rw[←Ja]
  have hq:(qy b=.pure∨qy b=.read)→H'=H→Dr P n ops mu w0 df mk g0 ws H0 (pre++[x]) L g (bA R x.o.d v) H' a w:=by
   rintro hk rfl
   refine h.take hd he (.inr ⟨Bf,d,b,Ja,hb,.inl ⟨hk,by rw[Jb,MR];exact hv⟩⟩) (.inl rfl) fun k hm=>?_
   unfold jE at hm
   rw[hb]at hm
   split at hm
   ·rename_i h1;cases h1;simp[qy]at hk
   ·rename_i h1;cases h1;simp[qy]at hk
   ·cases hm
  cases hk:qy b with
  | MJ=>exact absurd hk k1
  | pure=>exact hq (.inl hk) (sS hk hv).1
  | read=>exact hq (.inr hk) (sU hk hv).1
  | make =>
   have hln:H0.length≤H.length:=h.fr.1
   cases b<;>simp only[qy]at hk<;>(try (cases hk;done))
   case mP=>split at hk<;>cases hk
   case alloc z =>
    simp only[ak,Option.some.injEq,Prod.mk.injEq]at hv
    obtain⟨rfl,rfl⟩:=hv
    refine h.take hd he (.inr ⟨Bf,d,_,Ja,hb,.inr (.inl ⟨H.length,z,rfl,MR,fh _ _,h.sr.Ie (Nat.le_refl _),hln⟩)⟩) (.inr ⟨_,rfl,.inl ⟨_,rfl⟩⟩) fun k hm=>?_
    simp only[jE,Ja,hb,iC,l6,Option.some.injEq]at hm
    omega
   case zd =>
    simp only[ak,Option.some.injEq,Prod.mk.injEq]at hv
    obtain⟨rfl,rfl⟩:=hv
    refine h.take hd he (.inr ⟨Bf,d,_,Ja,hb,.inr (.inr ⟨H.length,rfl,MR,fh _ _,h.sr.Ie (Nat.le_refl _),hln⟩)⟩) (.inr ⟨_,rfl,.inr ⟨_,rfl⟩⟩) fun k hm=>?_
    simp only[jE,Ja,hb,iC,l6,Option.some.injEq]at hm
    omega
theorem Dr.eV (h:Dr P n ops mu w0 df mk g0 ws H0 pre L g R H a w)(hd:Hd P n ops mu pre x o)(hp:∀j∈cz o,L.getD j false=true):gy g w R a (tmpsOf o x.o.op x.o.g) :=
 h.look hd.ho (fun j hj=>⟨(hd.pred j hj).1,hp j hj⟩) (pg hd.co) fun z hz _ d pU ht=>hd.Wj z hz d pU (by rw[hd.ts];exact ht)
theorem Dr.stays (h:Dr P n ops mu w0 df mk g0 ws H0 pre L g R H a w)(hd:Hd P n ops mu pre x o)(he:x.early=false)(hp:∀j∈cz o,L.getD j false=true)(hs:ju R H' x.o.AS) :
  ∀y∈pre,L.getD y.i false=false→∀d b,bL R y.o.g=true→y.o.d=some d→y.o.op=.b b→qy b=.read→ak R H b=some (R d,H)→ak R H' b=some (R d,H'):=by
 intro y hy hu d b hw I0 hyb hk _
 have zz:y.early=true:=by cases e:y.early with|true=>rfl|false=>rw[h.qD y hy e]at hu;cases hu
 have Wp:((eE ops.toList []).getD x.i 0).testBit y.i=false:=by
  cases e:((eE ops.toList []).getD x.i 0).testBit y.i with
  | false=>rfl
  | true=>rw[h.bit hd.ho (fun j hj=>⟨(hd.pred j hj).1,hp j hj⟩) e]at hu;cases hu
 have hm:=qE pre hy zz I0 hyb hk Wp
 rw[←hd.st he]at hm
 exact hs _ hm hw
end
theorem wD {g:Ctx}{w:World}{n:Nat}:∀(ps:List Nat) (vs:List T) (us:List Value) (R:ar) (tmps:Array Value),bD g w vs us→vs.length=ps.length→tmps.size=n→(∀t,t<n→VR g w (R t) (tmps.getD t undef))→(∀p∈ps,p<n) →
  ((ps.zip us).foldl (fun tmps (t,a)=>tmps.setIfInBounds t a) tmps).size=n∧∀t,t<n→VR g w (iq R ps vs t) (((ps.zip us).foldl (fun tmps (t,a)=>tmps.setIfInBounds t a) tmps).getD t undef)
 | [],vs,us,R,tmps,hv,hl,hn,hr,_=>by
  cases vs with
  | nil=>exact⟨by simpa using hn,by simpa[iq]using hr⟩
  | cons _ _=>simp at hl
 | p :: ps,[],us,R,tmps,hv,hl,hn,hr,_=>by simp at hl
 | p :: ps,v :: vs,[],R,tmps,hv,hl,hn,hr,_=>by have:=hv.1;simp at this
 | p :: ps,v :: vs,u :: us,R,tmps,hv,hl,hn,hr,hp=>by
  simp only[List.zip_cons_cons,List.foldl_cons,iq]
  refine wD ps vs us (nY R p v) (tmps.setIfInBounds p u) hv.tail (by simpa using hl) (by simpa using hn) (fun t ht=>?_) (fun q hq=>hp q (by simp[hq]))
  have vR:p<tmps.size:=by rw[hn];exact hp p (by simp)
  by_cases e:p=t
  ·subst e;simp only[nY,if_true];rw[Array.getD_eq_getD_getElem?];simp[vR];exact hv.head
  ·simp only[nY];rw[if_neg (Ne.symm e),Array.getD_eq_getD_getElem?,Array.getElem?_setIfInBounds_ne e,←Array.getD_eq_getD_getElem?];exact hr t ht
section
variable {P:Program} {w0 w ws:World} {g g0:Ctx} {H H0 H':af} {R:ar} {a:Act} {n:Nat} {ops:Array Oper} {r:Option Nat} {mu:Bool} {i:Nat} {o:Oper} {st I4:List Rd}
theorem Dy {e:Ex}(h:e≠.normal):(∃id,e=.exit id∧vH (some e)=some (.exit id))∨(e=.ret∧vH (some e)=some .ret):=by
 cases e with
 | normal=>exact absurd rfl h
 | exit id=>exact .inl ⟨id,rfl,rfl⟩
 | ret=>exact .inr ⟨rfl,rfl⟩
theorem wE {d:Option Nat}{x:X}{as:List X}{gd:Gd}{b m:Nat}{R0:ar}{ps:List Nat}{bZ body:C}{M1 M:Out→af→Prop}(ho:ops[i]?=some o)(hc:fx P n ops mu o st=some ⟨d,.bB x as,gd,I4⟩)(hn:a.tmps.size=n)(hr:gy g w R a (tmpsOf o (.bB x as) gd))(hw:bL R gd=true)
  (hx:x.ev R=.mO b) (hb:H[b]?=some (.loop .ready none m R0 ps bZ body)) (hlen:as.length=ps.length) (ck:fS P g) (sr:SR w0 g H w)
  (vz:Wn P (.code bZ (iq R0 ps (as.map (X.ev R)))) H M1) (AY:∀o H',M1 o H'→(∃R1,o=.ex .normal R1)∧H'[b]?=some (.loop .ready none m R0 ps bZ body))
  (mT:∀R1 H1,M1 (.ex .normal R1) H1→Wn P (.code body R1) (H1.set b (.loop .busy none m R0 ps bZ body)) M) (AZ:∀o H',M o H'→H'[b]?=some (.loop .busy none m R0 ps bZ body))
  {K:Act→World→Prop} {Q:Exit→Act→World→Prop}
  (hk:∀v w' g' H' t,((∃R' H2,M (.ex .normal R') H2∧t=.bool true∧H'=H2.set b (.loop .ready none m R0 ps bZ body))∨(∃e R' H2,M (.ex e R') H2∧e≠.normal∧t=.bool false∧H'=H2.set b (.loop .done (some e) m R0 ps bZ body))) →
   Le g w g' w'→SR w0 g' H' w'→VR g' w' t v→Fr g H g' H'→K (a.put d v) w'):wpOpIn (Fw r) 0 P ops Q i K a w:=by
 obtain⟨MP,MQ,h1,h2,h3,h4,h5⟩:=br hc
 cases h3
 refine gH ho hc hn hr hw ⟨fun _ _=>trivial,?_⟩
 have fv:=gG h1
 obtain⟨t,args,iw,rfl,PI,h6⟩:=l4 h1
 have ph:=lz hr
 have hv:=fF (ρ:=a.eval) args.toList as h6 (sW (ph.sub fun t ht=>by
  simp only[eQ,List.mem_filterMap]at ht ⊢
  obtain⟨x,hx,e⟩:=ht
  exact⟨x,by rw[PI];simp only[Op.operands,Call.operands];simp at hx;simp[hx],e⟩))
 have hf:=ph t (by rw[PI];simp only[eQ,List.mem_filterMap];exact⟨.tmp t,by simp[Op.operands,Call.operands],rfl⟩)
 simp only[X.ev]at hx
 rw[hx]at hf
 generalize IW:a.tmps.getD t undef=vf at hf
 cases hf with
 | @mO _ l o' q' hφ =>
  obtain⟨k1,rec,k2,k3,k4,k5,k6,k7,k8,k9,k10⟩:=sr.dP b _ hb l o' q' hφ
  rw[Oper.semAt_eq _ _ _ fv]
  have a7:(args.toList.map a.eval).toArray.size=rec.params.size:=by
   have:=hv.1;simp at this
   have e2:rec.params.size=ps.length:=by rw[←k5];simp
   simp[e2,←hlen,this]
  have ct:(execOp a.eval o).run P w=.ok (.round l rec.fn ((rec.params.zip (args.toList.map a.eval).toArray).foldl (fun tmps (t,a)=>tmps.setIfInBounds t a) rec.tmps) rec.assign rec.body) w:=by
   have hy:=run_yield (P:=P) (args:=(args.toList.map a.eval).toArray) k2 a7
   have e2:(args.toList.map a.eval).toArray=args.map a.eval:=by rw[←Array.toList_map]
   rw[e2]at hy ⊢
   have e:a.eval (.tmp t)=.func (.yield l) #[] #[]:=IW
   simp only[execOp,PI,resolve,e,Deferred.ofValue,invoke]
   simpa using hy
  rw[ct,Oper.uponIn_round]
  refine⟨fun h=>by simp[Fw]at h,roundIn_of_wpIn trivial ?_⟩
  have Ct:(rec.params.zip (args.toList.map a.eval).toArray).foldl (fun tmps (t,a)=>tmps.setIfInBounds t a) rec.tmps=(ps.zip (args.toList.map a.eval)).foldl (fun tmps (t,a)=>tmps.setIfInBounds t a) rec.tmps:=by
   rw[←Array.foldl_toList,Array.toList_zip,k5]
  rw[Ct]
  have ky:=wD ps (as.map (X.ev R)) (args.toList.map a.eval) R0 rec.tmps hv (by simpa using hlen) k6 k7 k8
  obtain⟨an1,js⟩:=(ck _ _ _).1 k9
  obtain⟨an2,pw⟩:=(ck _ _ _).1 k10
  refine wpIn_mono (vz w0 g w { tmps:=(ps.zip (args.toList.map a.eval)).foldl (fun tmps (t,a)=>tmps.setIfInBounds t a) rec.tmps,defers:=[] } m an1 false rec.assign (some l) js (by simp) ck sr ky).1 fun e a1 w1 hp=>?_
  obtain⟨ex,R1,g1,H1,e1,hm,fR,MC,Cu,Wq,-,-⟩:=hp
  obtain⟨⟨R1',hR1⟩,kb⟩:=AY _ _ hm
  cases hR1
  cases e<;>simp only[sm,Option.some.injEq,reduceCtorEq]at e1
  have PK:=fR.φ _ _ hφ
  obtain⟨j1,Wr,j2,j3,j4,j5,j6,j7,j8,j9,j10⟩:=MC.dP b _ kb l o' q' PK
  refine⟨_,run_beginRound j2 j3,?_⟩
  obtain⟨Jc,KX,zE⟩:=MC.uq (y':=.loop .busy none m R0 ps bZ body) (x':=.loop { Wr with state:=.busy }) kb PK j1 j2 rfl rfl (fun w' le Bf r o q hq=>by
   rw[PK]at hq;cases hq
   exact⟨j1,_,Bf,rfl,j4,j5,j6,fun t ht=>(j7 t ht).mono le,j8,j9,j10⟩)
  refine wpIn_mono (mT _ _ hm w0 g1 _ a1 m an2 false rec.body (some l) pw (by simp) (ck.mono fR) KX ⟨Cu.1,fun t ht=>(Cu.2 t ht).mono Jc⟩).1 fun e2 a2 w3 lA=>?_
  obtain⟨U3,R2,g2,H2,e3,MS,zF,BG,xG,Cv,-,-⟩:=lA
  have kc:=AZ _ _ MS
  have zr:=zF.φ _ _ PK
  obtain⟨i1,Ws,i2,i3,i4,i5,i6,i7,i8,i9,i10⟩:=BG.dP b _ kc l o' q' zr
  have fin:∀(jump:Option Code) (st:Mb) (pe:Option Ex) (v:Bool),vH pe=jump→st.real=(if jump.isNone then .ready else .done)→v=jump.isNone →
    ((v=true∧U3=.normal∧st=.ready∧pe=none)∨(v=false∧U3≠.normal∧st=.done∧pe=some U3)) →
    ∃v' w',(Instr.endRound l jump).run P w3=.ok v' w'∧K (a.put o.dst v') w':=by
   intro jump st pe v q1 q2 q3 q4
   obtain⟨Hj,Hk,Cw⟩:=BG.uq (y':=.loop st pe m R0 ps bZ body) (x':=.loop { Ws with state:=if jump.isNone then .ready else .done,pending:=jump }) kc zr i1 i2 rfl rfl (fun w' le Bf r o q hq=>by
    rw[zr]at hq;cases hq
    exact⟨i1,_,Bf,q2.symm,q1.symm,i5,i6,fun t ht=>(i7 t ht).mono le,i8,i9,i10⟩)
   refine⟨_,_,run_endRound jump i2,?_⟩
   refine hk _ _ g2 (H2.set b (.loop st pe m R0 ps bZ body)) (.bool v) ?_ (((fR.trans Jc).trans zF).trans Hj) Hk (by rw[←q3];exact .bool v) (((Wq.trans zE).trans Cv).trans Cw)
   rcases q4 with⟨rfl,rfl,rfl,rfl⟩|⟨rfl,bF,rfl,rfl⟩
   ·exact .inl ⟨R2,H2,MS,rfl,rfl⟩
   ·exact .inr ⟨U3,R2,H2,MS,bF,rfl,rfl⟩
  cases e2<;>simp only[sm,Option.some.injEq,reduceCtorEq]at e3<;>subst e3
  case normal=>exact fin none .ready none true rfl rfl rfl (.inl ⟨rfl,rfl,rfl,rfl⟩)
  case exit id=>exact fin (some (.exit id)) .done (some (.exit id)) false rfl rfl rfl (.inr ⟨rfl,by simp,rfl,rfl⟩)
  case ret=>exact fin (some .ret) .done (some .ret) false rfl rfl rfl (.inr ⟨rfl,by simp,rfl,rfl⟩)
end
theorem uv {P:Program}{w0:World}{F:Func}{n:Nat}{t0:T}{res:List Rs}:∀(ts:List T) (df:List Deferred) (bs:List Nat) (g:Ctx) (H:af) (w:World) (R:ar) (a:Act) (Rr:Ending→World→Prop),
  wy g ts df→qf ts=some bs→bs.Nodup→(∀b∈bs,H[b]?=some .zf)→SR w0 g H w→gS g w n R a →
  (∀w' v,Le g w g w'→SR w0 g (kill H bs) w'→gS g w' n R a→Fr g H g (kill H bs)→(results F a.tmps).run P w'=.ok v w'→VR g w' t0 v→Rr (.returned v) w') →
  pt R (kill H bs) res=some t0→(∀(g:Ctx) (w:World) (H:af),SR w0 g H w→gS g w n R a→pt R H res=some t0→∃v,(results F a.tmps).run P w=.ok v w∧VR g w t0 v) →
  LeavesInM (Fw none) 0 P F a.tmps Rr df .returning w:=by
 intro ts
 induction ts with
 | nil =>
  intro df bs g H w R a Rr hm hb _ _ sr hr hk qI ct
  cases hm
  simp only[qf,Option.some.injEq]at hb;subst hb
  obtain⟨v,h1,h2⟩:=ct g w H sr hr qI
  exact⟨v,h1,hk w v (.refl _ _) sr hr (.refl _ _) h1 h2⟩
 | cons t ts ih =>
  intro df bs g H w R a Rr hm hb fv Jd sr hr hk qI ct
  cases hm with
  | @cons b r o q _ df hφ QL =>
   simp only[qf,CL]at hb
   split at hb
   ·rename_i b' bs' e1 e2
    cases e1
    cases hb
    have hdb:=Jd b (by simp)
    obtain⟨k1,k2⟩:=sr.dP b _ hdb r o q hφ
    obtain⟨le,iX,rL⟩:=sr.uq (y':=.dead) (x':=.deferred none) hdb hφ k1 k2 rfl rfl (fun _ _ _=>trivial)
    refine⟨by simp,.inl ⟨r,_,rfl,run_takeDeferred k2,?_⟩⟩
    simp only[List.nodup_cons]at fv
    refine ih df bs' g (H.set b .dead) _ R a Rr QL e2 fv.2 (fun c hc=>?_) iX ⟨hr.1,fun t ht=>(hr.2 t ht).mono le⟩ (fun w' v Jc KX uw zE=>hk w' v (le.trans Jc) KX uw (rL.trans zE)) qI ct
    exact fj (Jd c (by simp[hc])) (by rintro rfl;exact fv.1 hc)
   ·cases hb
def wF (tmps:Array Value):ResultVar→Sem Value
 | .tmp t=>pure (tmps.getD t undef)
 | .cell a t=>do loadVar t (←asAddr (tmps.getD a undef))
theorem kF {P:Program}{w0:World}{g:Ctx}{w:World}{H:af}{R:ar}{a:Act}{n:Nat}(sr:SR w0 g H w):∀(l:List ResultVar) (res:List Rs) (ts:List T),nn P l=some res→rT R H res=some ts→(∀t∈res,Bq n t=true)→gS g w n R a →
  ∃vs:List Value,(l.mapM (wF a.tmps)).run P w=.ok vs w∧bD g w ts vs
 | [],res,ts,h,ht,_,_=>by simp[nn]at h;subst h;simp[rT]at ht;subst ht;exact⟨[],by simp,bD.nil⟩
 | .tmp t :: l,res,ts,h,ht,hn,hr=>by
  simp only[nn,Option.map_eq_some_iff]at h
  obtain⟨MT,h1,rfl⟩:=h
  simp only[rT,xM]at ht
  split at ht
  ·rename_i v vs hv hY
   cases ht;cases hv
   obtain⟨us,h2,h3⟩:=kF (P:=P) sr l MT vs h1 hY (fun t ht=>hn t (by simp[ht])) hr
   exact⟨a.tmps.getD t undef :: us,by rw[List.mapM_cons];simp only[Sem.run_bind,wF,Sem.run_pure,Result.andThen_ok,h2],bD.cons (hr.2 t (by simpa[Bq]using hn (.t t) (by simp))) h3⟩
  ·cases ht
 | .cell c t :: l,res,ts,h,ht,hn,hr=>by
  simp only[nn]at h
  split at h
  ·rename_i d i hu hi
   simp only[Option.map_eq_some_iff]at h
   obtain⟨MT,h1,rfl⟩:=h
   simp only[rT]at ht
   split at ht
   ·rename_i v vs hv hY
    cases ht
    obtain⟨us,h2,h3⟩:=kF (P:=P) sr l MT vs h1 hY (fun t ht=>hn t (by simp[ht])) hr
    simp only[xM]at hv
    split at hv
    ·rename_i cs ug
     have hc:=hr.2 c (by simpa[Bq]using hn (.cl c (if dU d=true then i.size else 1) (dU d)) (by simp))
     obtain⟨u,w',g',ct,hw,fD,hg⟩:=HM (P:=P) hu hi rfl (fun e=>by rw[if_pos e]) sr hc ug hv
     subst hw;subst hg
     obtain⟨r,o,us0,hp,_⟩:=oc sr hc ug
     have QM:(wF a.tmps (.cell c t)).run P w'=.ok u w':=by
      rw[←ct,hp]
      have e:wF a.tmps (.cell c t)=(asAddr (a.tmps.getD c undef) >>= fun x=>loadVar t x):=rfl
      rw[e,hp]
      simp only[asAddr,Instr.loadAt,Instr.sureAddr,Sem.run_bind,Sem.run_pure,Result.andThen_ok]
     exact⟨u :: us,by rw[List.mapM_cons];simp only[Sem.run_bind,QM,Result.andThen_ok,h2,Sem.run_pure],bD.cons fD h3⟩
    ·cases hv
   ·cases ht
  ·cases h
theorem qJ {P:Program}{fn:Func}{w0:World}{g:Ctx}{w:World}{H:af}{R:ar}{a:Act}{n:Nat}{res:List Rs}{t:T}(sr:SR w0 g H w)(h:nn P fn.results.toList=some res)(hn:∀t∈res,Bq n t=true)(hr:gS g w n R a)(ht:pt R H res=some t):∃v,(results fn a.tmps).run P w=.ok v w∧VR g w t v:=by
 simp only[pt,Option.map_eq_some_iff]at ht
 obtain⟨ts,ht,rfl⟩:=ht
 obtain⟨vs,h1,h2⟩:=kF (P:=P) sr fn.results.toList res ts h ht hn hr
 have hl:ts.length=vs.length:=h2.1
 have e:results fn a.tmps=(fn.results.mapM (wF a.tmps) >>= fun vs=>pure (if h:vs.size=1 then vs[0]else .tuple vs)):=rfl
 refine⟨if h:vs.toArray.size=1 then vs.toArray[0]else .tuple vs.toArray,?_,?_⟩
 ·rw[e,Array.mapM_eq_mapM_toList]
  simp only[Sem.run_bind,Sem.run_map,map_eq_pure_bind,h1,Result.andThen_ok,Sem.run_pure]
 ·match ts,vs,hl,h2 with
  | [],[],_,_=>exact .bN rfl (by simp)
  | [t],[v],_,h2=>simpa[AW]using h2.head
  | t :: t' :: ts,v :: v' :: vs,_,h2 =>
   have:¬(v :: v' :: vs).toArray.size=1:=by simp
   rw[dif_neg this]
   simpa[AW]using h2.bN
theorem fT {P:Program}{n:Nat}{ops:Array Oper}{mu:Bool}{o:Oper}{st:List Rd}{y:O}(h:fx P n ops mu o st=some y):y.d≠some n:=by
 obtain⟨_,_,_,_,e,_,h5⟩:=br h
 subst e
 exact fun e=>Nat.lt_irrefl n (h5 n e)
theorem zG {P:Program}{n:Nat}{ops:Array Oper}{mu:Nat→Bool}{w0 w ws w':World}{df:List Deferred}{mk:T}{g g0 g':Ctx}{H H0 H':af}{pre Wt:List It}{L L':Array Bool}{R R':ar}{a a':Act}
  (h:Dr P n ops mu w0 df mk g0 ws H0 pre L g R H a w) (h':Dr P n ops mu w0 df mk g0 ws H0 Wt L' g' R' H' a' w') (ck:fS P g):fS P g':=fun n c k=>by rw[h'.le.ck,←h.le.ck];exact ck n c k
theorem qK {P:Program}{an:An}{f:FuncId}{fn:Fn}(xH:ai P an f=some fn):∃F code res body,P.funcs[f]?=some F∧F.body=some code∧nn P F.results.toList=some res∧bC P F.ntmps an true code=some body ∧
  dw P f=true∧F.params.size+F.nfree≤F.ntmps∧(∀t∈res,Bq F.ntmps t=true)∧fn=⟨F.ntmps,F.params.size+F.nfree,res,body⟩:=by
 unfold ai at xH
 cases hF:P.funcs[f]? with
 | none=>simp[hF]at xH
 | some F =>
  simp only[hF]at xH
  split at xH
  ·rename_i code res hb qI
   split at xH
   ·rename_i c uk
    split at xH
    ·rename_i hk
     simp only[Bool.and_eq_true,decide_eq_true_eq,List.all_eq_true]at hk
     obtain⟨⟨jD,a7⟩,ax⟩:=hk
     cases xH
     exact⟨F,code,res,c,rfl,hb,qI,uk,jD,a7,ax,rfl⟩
    ·cases xH
   ·cases xH
  ·cases xH
theorem qL {F:Func}{g:Ctx}{w:World}{as:List T}{args:List Value}(hv:bD g w as args){k:Nat}(hn:as.length=k)(a7:k≤F.ntmps) :
  gS g w F.ntmps (gp as) { tmps:=args.toArray++Array.replicate (F.ntmps-args.toArray.size) undef,defers:=[] }:=by
 have MU:args.length=as.length:=hv.1.symm
 refine⟨by simp[MU,hn];omega,fun t ht=>?_⟩
 by_cases U4:t<as.length
 ·simp only[gp]
  rw[List.getD_eq_getElem?_getD,List.getElem?_eq_getElem U4,Option.getD_some]
  rw[Array.getD_eq_getD_getElem?,Array.getElem?_append_left (by simpa[MU]using U4)]
  simp only[List.getElem?_toArray,List.getElem?_eq_getElem (MU▸U4:t<args.length),Option.getD_some]
  exact hv.2 t _ _ (List.getElem?_eq_getElem U4) (List.getElem?_eq_getElem _)
 ·simp only[gp]
  rw[List.getD_eq_getElem?_getD,List.getElem?_eq_none (by omega),Option.getD_none]
  rw[Array.getD_eq_getD_getElem?,Array.getElem?_append_right (by simp[MU];omega),Array.getElem?_replicate]
  split<;>exact gP
theorem kE.QN {w0 w:World}{n:Nat}{hr n5:Bool}{df:List Deferred}{mk:T}{g:Ctx}{H:af}{Q:Out→af→Prop}(hh:hr=false→n5=false){e:Exit}{a:Act}{u:World}(h:kE w0 n n5 df mk g w H Q e a u):kE w0 n hr df mk g w H Q e a u :=
 h.trans (.refl _ _) (.refl _ _) id fun e=>⟨hh e,rfl,rfl⟩
theorem W.sim {P:Program}{E:Env}(hE:zB P E){j:J}{H:af}{Q:Out→af→Prop}(h:W E j H Q):Wn P j H Q:=by
 induction h with
 | @skip R H Q h =>
  intro w0 g w a n an top code r hc ht ck sr hr
  obtain rfl:=Du hc
  exact⟨wpIn_skip ⟨.normal,R,g,H,rfl,h,.refl _ _,sr,hr,.refl _ _,id,fun _=>⟨rfl,rfl⟩⟩,by rintro _⟨⟩⟩
 | @exit id R H Q h =>
  intro w0 g w a n an top code r hc ht ck sr hr
  obtain rfl:=Dv hc
  exact⟨wpIn_exit ⟨.exit id,R,g,H,rfl,h,.refl _ _,sr,hr,.refl _ _,fun m=>m,fun _=>⟨rfl,rfl⟩⟩,by rintro _⟨⟩⟩
 | @ret R H Q h =>
  intro w0 g w a n an top code r hc ht ck sr hr
  obtain rfl:=I5 hc
  exact⟨wpIn_ret ⟨.ret,R,g,H,rfl,h,.refl _ _,sr,hr,.refl _ _,id,fun _=>⟨rfl,rfl⟩⟩,by rintro _⟨⟩⟩
 | @Pu l R H Q _ ih =>
  intro w0 g w a n an top code r hc ht ck sr hr
  obtain⟨id,ops,mu,⟨rfl,h1⟩|⟨rfl,ord,jB,h1,h2⟩⟩:=I7 hc
  ·exact⟨wpIn_mono (wpIn_region (ih.1 w0 g w H g w a n ops mu _ r h1 ck sr hr (.refl _ _) (.refl _ _))) fun e a w hp=>hp.toC,by rintro _⟨⟩⟩
  ·refine⟨wpIn_mono (wpIn_region_any (Q:=yl w0 n a.defers (R n) g w H Q) hE.mixed ?_) fun e a w hp=>hp.toC,by rintro _⟨⟩⟩
   obtain⟨iX,le⟩:=sr.drew (w':={ w with drawn:=w.drawn+1 }) (Tr.drew w) rfl
   have hd:=Dr.init (ops:=ops) (mu:=mu) (P:=P) (mk:=R n) iX hr.1 rfl (fun t ht=>(hr.2 t ht).mono le) le (.refl g H)
   refine ih.2 w0 n ops mu a.defers (R n) g w H [] _ g a _ ord jB r ops.size ck h1 h2 hd ?_
   exact Nat.le_trans (List.count_le_length) (by simp)
 | @seq x y R H Q M _ h2 h3 vz mT =>
  intro w0 g w a n an top code r hc ht ck sr hr
  obtain⟨c,d,rfl,k1,k2⟩:=I6 hc
  refine⟨wpIn_seq (wpIn_mono (vz w0 g w a n an top c r k1 ht ck sr hr).1 fun e a' w' hp=>?_),by rintro _⟨⟩⟩
  have hb:(C.seq x y).lP=false→x.lP=false∧y.lP=false:=by simp[C.lP]
  obtain⟨ex,R',g',H',e1,hm,le,iX,n5,fr,vu,zH⟩:=hp
  cases e<;>simp only[sm,Option.some.injEq,reduceCtorEq]at e1<;>subst e1
  case normal =>
   exact wpIn_mono (mT R' H' hm w0 g' w' a' n an top d r k2 ht (ck.mono le) iX n5).1 fun e a2 w2 hp=>hp.trans le fr vu fun e=>⟨(hb e).2,zH (hb e).1⟩
  case exit id=>exact⟨_,R',g',H',rfl,h3 _ _ hm (by simp),le,iX,n5,fr,vu,fun e=>zH (hb e).1⟩
  case ret=>exact⟨_,R',g',H',rfl,h3 _ _ hm (by simp),le,iX,n5,fr,vu,fun e=>zH (hb e).1⟩
 | @cond x c d R H Q t hx _ ih =>
  intro w0 g w a n an top code r hc ht ck sr hr
  obtain⟨o,d',e',rfl,k1,k2,k3,k4⟩:=Dw hc
  refine⟨wpIn_cond (t:=t) ?_ ?_,by rintro _⟨⟩⟩
  ·have hv:VR g w (.bool t) (a.eval o):=by
    cases o with
    | tmp u=>simp only[aK,Option.some.injEq]at k1;subst k1;simp only[X.ev]at hx;rw[←hx];exact hr.2 u (k4 u rfl)
    | const v =>
     simp only[aK,Option.map_eq_some_iff]at k1
     obtain⟨u,h1,rfl⟩:=k1
     simp only[X.ev]at hx;subst hx
     exact lj h1
    | «global» _=>simp[aK]at k1
    | func f=>simp only[aK,Option.some.injEq]at k1;subst k1;simp[X.ev]at hx
   generalize a.eval o=v at hv
   cases hv;rfl
  ·cases t
   ·exact wpIn_mono (ih w0 g w a n an top e' r k3 ht ck sr hr).1 fun e a w hp=>hp.QN (by simp[C.lP])
   ·exact wpIn_mono (ih w0 g w a n an top d' r k2 ht ck sr hr).1 fun e a w hp=>hp.QN (by simp[C.lP];intro h _;exact h)
 | @block id x R H Q M _ h2 h3 ih =>
  intro w0 g w a n an top code r hc ht ck sr hr
  obtain⟨c,rfl,k1⟩:=BE hc
  refine⟨wpIn_block (wpIn_mono (ih w0 g w a n an top c r k1 ht ck sr hr).1 fun e a' w' hp=>?_),by rintro _⟨⟩⟩
  obtain⟨ex,R',g',H',e1,hm,le,iX,n5,fr,zH⟩:=hp
  cases e<;>simp only[sm,Option.some.injEq,reduceCtorEq]at e1<;>subst e1
  case normal=>exact⟨_,R',g',H',rfl,h3 _ _ hm (by simp),le,iX,n5,fr,zH⟩
  case exit id' =>
   simp only[Exit.inBlock]
   split
   ·rename_i e;subst e;exact⟨_,R',g',H',rfl,h2 _ _ hm,le,iX,n5,fr,zH⟩
   ·rename_i e;exact⟨_,R',g',H',rfl,h3 _ _ hm (fun R2 e2=>by cases e2;exact e rfl),le,iX,n5,fr,zH⟩
  case ret=>exact⟨_,R',g',H',rfl,h3 _ _ hm (by simp),le,iX,n5,fr,zH⟩
 | @loop x R H Q M _ h2 h3 vz mT =>
  intro w0 g w a n an top code r hc ht ck sr hr
  obtain⟨c,rfl,k1⟩:=Dx hc
  have key:qF (Fw r) 0 P c (kE w0 n x.loop.lP a.defers (R n) g w H Q) a w:=by
   refine wz (wpIn_mono (vz w0 g w a n an top c r k1 ht ck sr hr).1 fun e a' w' hp=>?_)
   obtain⟨ex,R',g',H',e1,hm,le,iX,n5,fr,vu,zH⟩:=hp
   cases e<;>simp only[sm,Option.some.injEq,reduceCtorEq]at e1<;>subst e1
   case normal =>
    have:=(mT R' H' hm w0 g' w' a' n an top (.loop c) r hc ht (ck.mono le) iX n5).2 c rfl
    intro b k cs h1 h2 h4
    obtain⟨e,a2,w2,hq,ni⟩:=this b k cs h1 h2 h4
    exact⟨e,a2,w2,hq.trans le fr vu fun e=>⟨e,zH e⟩,ni⟩
   case exit id=>exact⟨_,R',g',H',rfl,h3 _ _ hm (by simp),le,iX,n5,fr,vu,zH⟩
   case ret=>exact⟨_,R',g',H',rfl,h3 _ _ hm (by simp),le,iX,n5,fr,vu,zH⟩
  exact⟨BC key,fun body e=>by cases e;exact key⟩
 | @cI m x ps bZ body R H Q f cs M hx _ h2 ih =>
  intro w0 g w a n an top code r hc ht ck sr hr
  obtain⟨Wu,qs,c,d,rfl,k1,k2,k3,k4,k5,rfl,k7,rfl⟩:=BF hc
  obtain rfl:=ht k4
  refine⟨wpIn_rangeFunc fun fn _=>?_,by rintro _⟨⟩⟩
  have hv:VR g w (.fn f cs) (a.eval Wu):=by
   cases Wu with
   | tmp u=>simp only[aK,Option.some.injEq]at k1;subst k1;simp only[X.ev]at hx;rw[←hx];exact hr.2 u (k5 u (by simp[dJ]))
   | const v =>
    simp only[aK,Option.map_eq_some_iff]at k1
    obtain⟨u,h1,rfl⟩:=k1
    simp only[X.ev]at hx;subst hx
    exact lj h1
   | «global» _=>simp[aK]at k1
   | func f'=>simp only[aK,Option.some.injEq]at k1;subst k1;simp only[X.ev]at hx;cases hx;exact .fn rfl (by simp)
  generalize hgv:a.eval Wu=vf at hv
  cases hv with
  | @fn _ _ vs hl ug =>
   obtain⟨g1,fR,MC,Wq,PK⟩:=sr.Di (x:=.deferred (some [])) (y:=.zf) rfl (fun g' w' _ q1 q2 q3 r o q hq=>by rw[q2]at hq;cases hq;exact⟨q1,q3⟩)
   have a7:(w.alloc (.deferred (some []))).heap.size=w.heap.size+1:=by simp
   obtain⟨g2,Jc,KX,zE,zr⟩:=MC.Di (x:=.loop { state:=.ready,pending:=none,fn,tmps:=a.tmps,params:=qs,assign:=c,body:=d,defers:=w.heap.size }) (y:=.loop .ready none m R qs.toList bZ body) rfl
    (fun g' w' le q1 q2 q3 r o q hq=>by
     rw[q2]at hq;cases hq
     refine⟨q1,_,q3,rfl,rfl,rfl,hr.1,fun t ht=>((hr.2 t ht).mono fR).mono le,k7,?_,?_⟩
     ·rw[le.ck,fR.ck];exact(ck _ _ _).2 ⟨an,k2⟩
     ·rw[le.ck,fR.ck];exact(ck _ _ _).2 ⟨an,k3⟩)
   rw[a7]at zr
   have hlen:(H++[B.zf]).length=H.length+1:=by simp
   rw[hlen]at zr
   have qM:H++[B.zf]++[B.loop .ready none m R qs.toList bZ body]=H++[.zf,.loop .ready none m R qs.toList bZ body]:=by simp
   rw[qM]at KX zE
   have MV:=fR.trans Jc
   have QO:bD g2 ((w.alloc (.deferred (some []))).alloc (.loop { state:=.ready,pending:=none,fn,tmps:=a.tmps,params:=qs,assign:=c,body:=d,defers:=w.heap.size })) (.mO (H.length+1) :: cs) (.func (.yield (w.heap.size+1)) #[] #[] :: vs.toList) :=
    bD.cons (.mO zr) ⟨by simp[hl],fun i t v ha hb=>(ug i t v ha (by simpa using hb)).mono MV⟩
   obtain⟨jD,Dz⟩:=ih w0 g2 _ _ (ck.mono MV) KX QO
   refine⟨w.heap.size+1,[{ target:=.collected w.heap.size,args:=#[] }],((w.alloc (.deferred (some []))).alloc (.loop { state:=.ready,pending:=none,fn,tmps:=a.tmps,params:=qs,assign:=c,body:=d,defers:=w.heap.size })),{ target:=.fn (.func f) vs,args:=#[.func (.yield (w.heap.size+1)) #[] #[]] },((w.alloc (.deferred (some []))).alloc (.loop { state:=.ready,pending:=none,fn,tmps:=a.tmps,params:=qs,assign:=c,body:=d,defers:=w.heap.size })),f,#[.func (.yield (w.heap.size+1)) #[] #[]]++vs,((w.alloc (.deferred (some []))).alloc (.loop { state:=.ready,pending:=none,fn,tmps:=a.tmps,params:=qs,assign:=c,body:=d,defers:=w.heap.size })),run_enterLoop_outer _ _ _ _ _,?_,fun _ _=>trivial,?_,fun h=>by simp[Fw]at h,?_⟩
   ·simp only[resolve,hgv,Deferred.ofValue]
    simp[Act.eval]
   ·exact jC jD
   ·have e3:(.func (.yield (w.heap.size+1)) #[] #[] :: vs.toList:List Value).toArray=#[.func (.yield (w.heap.size+1)) #[] #[]]++vs:=by simp
    rw[e3]at Dz
    refine Dz.mono fun e w3 ⟨v,t,g3,H3,he,hM,zF,BG,_,Cv⟩=>?_
    subst he
    obtain⟨st,ft,dF,PL,Cx,hQ⟩:=h2 _ _ hM
    have hφ3:=zF.φ _ _ zr
    obtain⟨j1,rec,j2,j3,j4,j5,j6,j7,j8,j9,j10⟩:=BG.dP _ _ Cx _ _ _ hφ3
    obtain⟨Hj,Hk,Cw⟩:=BG.uq (y':=.dead) (x':=.loop { rec with state:=.exhausted }) Cx hφ3 j1 j2 rfl rfl (fun _ _ _=>trivial)
    refine⟨_,_,run_endLoop j2 (by rw[j3];cases st<;>simp[Mb.real]at dF ⊢),?_⟩
    generalize w3.putObj (w.heap.size+1) (.loop { rec with state:=.exhausted })=W4 at Hj Hk ⊢
    rw[j4]
    have MW:=(MV.trans zF).trans Hj
    have hFr:Fr g H g3 (H3.set (H.length+1) .dead):=by
     have:=(Wq.trans zE).trans (Cv.trans Cw)
     exact this
    have post:∀e,sm e=some (CM ft)→kE w0 m (C.cI m x qs.toList bZ body).lP a.defers (R m) g w H Q e { a with defers:=[{ target:=.collected w.heap.size,args:=#[] }]++a.defers } W4:=by
     intro e he
     refine⟨_,_,g3,_,he,hQ,MW,Hk,⟨hr.1,fun t ht=>?_⟩,hFr,fun hm=>?_,fun h=>by simp[C.lP]at h⟩
     ·simp only[nY];rw[if_neg (Nat.ne_of_lt ht)];exact(hr.2 t ht).mono MW
     ·obtain⟨ts,e1,e2⟩:=hm
      refine⟨.ptr H.length 0 :: ts,by simp[nY,e1,mY],.cons (((Jc.trans zF).trans Hj).φ _ _ PK) (e2.mono MW)⟩
    cases hp:ft with
    | none=>simp only[vH];exact post .normal (by rw[hp];rfl)
    | some e =>
     rcases Dy (e:=e) (by rintro rfl;exact PL hp)with⟨id,rfl,e5⟩|⟨rfl,e5⟩
     ·simp only[e5];exact wpIn_exit (post (.exit id) (by rw[hp];rfl))
     ·simp only[e5];exact wpIn_ret (post .ret (by rw[hp];rfl))
 | @nil R H Q h =>
  refine⟨fun w0 g0 ws H0 g w a n ops mu is r hc ck sr hr le fr=>?_,fun w0 n ops mu df mk g0 ws H0 pre L g a w ord jB r fuel ck h1 h2 hd hl=>?_⟩
  ·obtain rfl:=wC hc
   exact⟨.normal,R,g,H,rfl,h,le,sr,hr,fr,rfl,rfl⟩
  ·have cn:=cU ord pre jB h1
   cases jB with
   | cons _ _=>simp at h2
   | nil=>exact BD (by simpa using cn) h fuel L g a w hl hd
 | @no o l R H Q hg _ ih =>
  refine⟨fun w0 g0 ws H0 g w a n ops mu is r hc ck sr hr le fr=>?_,fun w0 n ops mu df mk g0 ws H0 pre L g a w ord jB r fuel ck h1 h2 hd hl=>?_⟩
  ·obtain⟨i,te,oper,rfl,ho,fu,fw⟩:=du hc
   rw[wpOpsIn_cons]
   refine zC ho fu hr.1 (hr.rg (pg fu)) hg ?_
   have:=ih.1 w0 g0 ws H0 g w (a.put o.d undef) n ops mu te r fw ck sr (hr.put (by obtain⟨_,_,_,_,e,_,h5⟩:=br fu;rw[e];exact h5) (.refl _ _) gP) le fr
   rwa[iR,cA (fT fu)]at this
  ·obtain⟨x,l',fH,oper,rfl,rfl,h3,hh,h4⟩:=gT h1 h2
   cases he:x.early with
   | true=>exact ih.2 w0 n ops mu df mk g0 ws H0 _ L g a w fH l' r fuel ck h4 h3 (hd.I8 hh he hg) hl
   | false =>
    refine eR (Tl:=fun R' H'=>R'=bA R x.o.d bX∧H'=H) hh he (cU ord pre _ h1) (dq fH _ l' h4) ?_ ?_ fuel L g a w hl hd
    ·rintro R' H'⟨rfl,rfl⟩ fuel L' g' a' w' hL gz
     exact ih.2 w0 n ops mu df mk g0 ws H0 _ L' g' a' w' fH l' r fuel (zG hd gz ck) h4 h3 gz hL
    ·intro L g a w hd hp K hK
     exact zC hh.ho hh.co hd.vw (hd.eV hh hp) hg (hK _ _ g _ w ⟨rfl,rfl⟩ (hd.both hh he hp (.refl _ _) hd.sr gP (.refl _ _) fun _ _ _ _ _ _ _ _ _ e=>e))
 | @op d b gd s l R H Q v H' hg hv hs _ ih =>
  refine⟨fun w0 g0 ws H0 g w a n ops mu is r hc ck sr hr le fr=>?_,fun w0 n ops mu df mk g0 ws H0 pre L g a w ord jB r fuel ck h1 h2 hd hl=>?_⟩
  ·obtain⟨i,te,oper,rfl,ho,fu,fw⟩:=du hc
   rw[wpOpsIn_cons]
   obtain⟨u,w',g',bR,my,iX,fD,rL⟩:=zD (r:=r) ho fu hr.1 (hr.rg (pg fu)) hg sr hv
   refine bR _ _ ?_
   have:=ih.1 w0 g0 ws H0 g' w' (a.put d u) n ops mu te r fw (ck.mono my) iX (hr.put (by obtain⟨_,_,_,_,e,_,h5⟩:=br fu;cases e;exact h5) my fD) (le.trans my) (fr.trans rL)
   rwa[iR,cA (fT fu)]at this
  ·obtain⟨x,l',fH,oper,rfl,nr,h3,hh,h4⟩:=gT h1 h2
   have Cy:x.o.d=d:=by rw[nr]
   cases he:x.early with
   | true =>
    have:=hd.I9 hh he (b:=b) (by rw[nr]) (by rw[nr];exact hg) hv
    rw[Cy]at this
    exact ih.2 w0 n ops mu df mk g0 ws H0 _ L g a w fH l' r fuel ck h4 h3 this hl
   | false =>
    refine eR (Tl:=fun R' H2=>R'=bA R d v∧H2=H') hh he (cU ord pre _ h1) (dq fH _ l' h4) ?_ ?_ fuel L g a w hl hd
    ·rintro R' H'⟨rfl,rfl⟩ fuel L' g' a' w' hL gz
     exact ih.2 w0 n ops mu df mk g0 ws H0 _ L' g' a' w' fH l' r fuel (zG hd gz ck) h4 h3 gz hL
    ·intro L2 g2 a2 w2 cr hp K hK
     have KY:fS P g2:=zG hd cr ck
     have fu:=hh.co
     have ph:=cr.eV hh hp
     have dF:=cr.stays hh he hp (H':=H') (by rw[nr];exact hs)
     rw[nr]at fu ph
     obtain⟨u,w',g',bR,my,iX,fD,rL⟩:=zD (r:=r) hh.ho fu cr.vw ph hg cr.sr hv
     refine bR _ _ (hK _ _ g' _ w' ⟨rfl,rfl⟩ ?_)
     have:=cr.both hh he hp my iX fD rL dF
     rwa[Cy]at this
 | @call d f as gd s l R H Q M hg _ hs h2 vz mT =>
  refine⟨fun w0 g0 ws H0 g w a n ops mu is r hc ck sr hr le fr=>?_,fun w0 n ops mu df mk g0 ws H0 pre L g a w ord jB r fuel ck h1 h2 hd hl=>?_⟩
  ·obtain⟨i,te,oper,rfl,ho,fu,fw⟩:=du hc
   rw[wpOpsIn_cons]
   refine s7 (r:=r) ho fu hr.1 (hr.rg (pg fu)) hg (fun args hv=>vz w0 g w args ck sr hv) fun u w' g' H' t hM my iX fD rL=>?_
   have:=(mT t H' hM).1 w0 g0 ws H0 g' w' (a.put d u) n ops mu te r fw (ck.mono my) iX (hr.put (by obtain⟨_,_,_,_,e,_,h5⟩:=br fu;cases e;exact h5) my fD) (le.trans my) (fr.trans rL)
   rwa[iR,cA (fT fu)]at this
  ·obtain⟨x,l',fH,oper,rfl,nr,h3,hh,h4⟩:=gT h1 h2
   have Cy:x.o.d=d:=by rw[nr]
   cases he:x.early with
   | true=>exact absurd (by rw[nr];rfl) (hh.kl he).1
   | false =>
    refine eR (Tl:=fun R' H2=>∃v,M (.val v) H2∧R'=bA R d v) hh he (cU ord pre _ h1) (dq fH _ l' h4) ?_ ?_ fuel L g a w hl hd
    ·rintro R' H'⟨v,hM,rfl⟩ fuel L' g' a' w' hL gz
     exact(mT v H' hM).2 w0 n ops mu df mk g0 ws H0 _ L' g' a' w' fH l' r fuel (zG hd gz ck) h4 h3 gz hL
    ·intro L2 g2 a2 w2 cr hp K hK
     have KY:fS P g2:=zG hd cr ck
     have fu:=hh.co
     have ph:=cr.eV hh hp
     rw[nr]at fu ph
     refine s7 (r:=r) hh.ho fu cr.vw ph hg (fun args hv=>vz w0 g2 w2 args KY cr.sr hv) fun u w' g' H' t hM my iX fD rL=>hK _ H' g' _ w' ⟨t,hM,rfl⟩ ?_
     have dF:=cr.stays hh he hp (H':=H') (by rw[nr];exact hs t H' hM)
     have:=cr.both hh he hp my iX fD rL dF
     rwa[Cy]at this
 | @bB d xx f cs as gd s l R H Q M hg hf _ hs h2 vz mT =>
  refine⟨fun w0 g0 ws H0 g w a n ops mu is r hc ck sr hr le fr=>?_,fun w0 n ops mu df mk g0 ws H0 pre L g a w ord jB r fuel ck h1 h2 hd hl=>?_⟩
  ·obtain⟨i,te,oper,rfl,ho,fu,fw⟩:=du hc
   rw[wpOpsIn_cons]
   refine qG (r:=r) ho fu hr.1 (hr.rg (pg fu)) hg hf (fun args hv=>vz w0 g w args ck sr hv) fun u w' g' H' t hM my iX fD rL=>?_
   have:=(mT t H' hM).1 w0 g0 ws H0 g' w' (a.put d u) n ops mu te r fw (ck.mono my) iX (hr.put (by obtain⟨_,_,_,_,e,_,h5⟩:=br fu;cases e;exact h5) my fD) (le.trans my) (fr.trans rL)
   rwa[iR,cA (fT fu)]at this
  ·obtain⟨x,l',fH,oper,rfl,nr,h3,hh,h4⟩:=gT h1 h2
   have Cy:x.o.d=d:=by rw[nr]
   cases he:x.early with
   | true=>exact absurd (by rw[nr];rfl) (hh.kl he).1
   | false =>
    refine eR (Tl:=fun R' H2=>∃v,M (.val v) H2∧R'=bA R d v) hh he (cU ord pre _ h1) (dq fH _ l' h4) ?_ ?_ fuel L g a w hl hd
    ·rintro R' H'⟨v,hM,rfl⟩ fuel L' g' a' w' hL gz
     exact(mT v H' hM).2 w0 n ops mu df mk g0 ws H0 _ L' g' a' w' fH l' r fuel (zG hd gz ck) h4 h3 gz hL
    ·intro L2 g2 a2 w2 cr hp K hK
     have KY:fS P g2:=zG hd cr ck
     have fu:=hh.co
     have ph:=cr.eV hh hp
     rw[nr]at fu ph
     refine qG (r:=r) hh.ho fu cr.vw ph hg hf (fun args hv=>vz w0 g2 w2 args KY cr.sr hv) fun u w' g' H' t hM my iX fD rL=>hK _ H' g' _ w' ⟨t,hM,rfl⟩ ?_
     have dF:=cr.stays hh he hp (H':=H') (by rw[nr];exact hs t H' hM)
     have:=cr.both hh he hp my iX fD rL dF
     rwa[Cy]at this
 | @mO d xx b as gd s l R H Q m R0 ps bZ body M1 M hg hf hb hn _ AY _ AZ zi _ Cn _ vz mT PM PN =>
  refine⟨fun w0 g0 ws H0 g w a n ops mu is r hc ck sr hr le fr=>?_,fun w0 n ops mu df mk g0 ws H0 pre L g a w ord jB r fuel ck h1 h2 hd hl=>?_⟩
  ·obtain⟨i,te,oper,rfl,ho,fu,fw⟩:=du hc
   rw[wpOpsIn_cons]
   refine wE (r:=r) ho fu hr.1 (hr.rg (pg fu)) hg hf hb hn ck sr vz AY mT AZ fun u w' g' H' t xV my iX fD rL=>?_
   have QP:=hr.put (d:=d) (by obtain⟨_,_,_,_,e,_,h5⟩:=br fu;cases e;exact h5) my fD
   rcases xV with⟨R',H2,hM,rfl,rfl⟩|⟨e,R',H2,hM,bF,rfl,rfl⟩
   ·have:=(PM R' H2 hM).1 w0 g0 ws H0 g' w' (a.put d u) n ops mu te r fw (ck.mono my) iX QP (le.trans my) (fr.trans rL)
    rwa[iR,cA (fT fu)]at this
   ·have:=(PN e R' H2 hM bF).1 w0 g0 ws H0 g' w' (a.put d u) n ops mu te r fw (ck.mono my) iX QP (le.trans my) (fr.trans rL)
    rwa[iR,cA (fT fu)]at this
  ·obtain⟨x,l',fH,oper,rfl,nr,h3,hh,h4⟩:=gT h1 h2
   have Cy:x.o.d=d:=by rw[nr]
   cases he:x.early with
   | true=>exact absurd (by rw[nr];rfl) (hh.kl he).1
   | false =>
    refine eR (Tl:=fun R' H'=>(∃R2 H2,M (.ex .normal R2) H2∧R'=bA R d (.bool true)∧H'=H2.set b (.loop .ready none m R0 ps bZ body))∨(∃e R2 H2,M (.ex e R2) H2∧e≠.normal∧R'=bA R d (.bool false)∧H'=H2.set b (.loop .done (some e) m R0 ps bZ body)))
     hh he (cU ord pre _ h1) (dq fH _ l' h4) ?_ ?_ fuel L g a w hl hd
    ·rintro R' H' (⟨R2,H2,hM,rfl,rfl⟩|⟨e,R2,H2,hM,bF,rfl,rfl⟩) fuel L' g' a' w' hL gz
     ·exact(PM R2 H2 hM).2 w0 n ops mu df mk g0 ws H0 _ L' g' a' w' fH l' r fuel (zG hd gz ck) h4 h3 gz hL
     ·exact(PN e R2 H2 hM bF).2 w0 n ops mu df mk g0 ws H0 _ L' g' a' w' fH l' r fuel (zG hd gz ck) h4 h3 gz hL
    ·intro L2 g2 a2 w2 cr hp K hK
     have KY:fS P g2:=zG hd cr ck
     have fu:=hh.co
     have ph:=cr.eV hh hp
     rw[nr]at fu ph
     refine wE (r:=r) hh.ho fu cr.vw ph hg hf hb hn KY cr.sr vz AY mT AZ fun u w' g' H' t xV my iX fD rL=>?_
     have kc:∀(hs:ju R H' s),Dr P n ops mu w0 df mk g0 ws H0 (pre++[x]) (L2.setIfInBounds x.i true) g' (bA R d t) H' (a2.put d u) w':=fun hs=>by
      have dF:=cr.stays hh he hp (H':=H') (by rw[nr];exact hs)
      have:=cr.both hh he hp my iX fD rL dF
      rwa[Cy]at this
     rcases xV with⟨R',H2,hM,rfl,rfl⟩|⟨e,R',H2,hM,bF,rfl,rfl⟩
     ·exact hK _ _ g' _ w' (.inl ⟨R',H2,hM,rfl,rfl⟩) (kc (zi R' H2 hM))
     ·exact hK _ _ g' _ w' (.inr ⟨e,R',H2,hM,bF,rfl,rfl⟩) (kc (Cn e R' H2 hM bF))
 | @AX d neg c xx yy s l R H Q hs _ hx hy hc ih =>
  subst hc
  subst hs
  refine⟨fun w0 g0 ws H0 g w a n ops mu is r hc ck sr hr le fr=>?_,fun w0 n ops mu df mk g0 ws H0 pre L g a w ord jB r fuel ck h1 h2 hd hl=>?_⟩
  ·obtain⟨i,te,oper,rfl,ho,fu,fw⟩:=du hc
   rw[wpOpsIn_cons]
   obtain⟨b,bR⟩:=sZ (r:=r) ho fu hr.1 (hr.rg (pg fu)) rfl hx hy
   refine bR _ _ ?_
   have:=(ih b).1 w0 g0 ws H0 g w (a.put d (.bool b)) n ops mu te r fw ck sr (hr.put (by obtain⟨_,_,_,_,e,_,h5⟩:=br fu;cases e;exact h5) (.refl _ _) (.bool b)) le fr
   rwa[iR,cA (fT fu)]at this
  ·obtain⟨x,l',fH,oper,rfl,nr,h3,hh,h4⟩:=gT h1 h2
   have Cy:x.o.d=d:=by rw[nr]
   cases he:x.early with
   | true =>
    have:=(hh.kl he).1
    rw[nr]at this
    exact absurd (by cases d<;>rfl) this
   | false =>
    refine eR (Tl:=fun R' H2=>∃b:Bool,R'=bA R d (.bool b)∧H2=H) hh he (cU ord pre _ h1) (dq fH _ l' h4) ?_ ?_ fuel L g a w hl hd
    ·rintro R' H'⟨b,rfl,rfl⟩ fuel L' g' a' w' hL gz
     exact(ih b).2 w0 n ops mu df mk g0 ws H0 _ L' g' a' w' fH l' r fuel (zG hd gz ck) h4 h3 gz hL
    ·intro L2 g2 a2 w2 cr hp K hK
     have KY:fS P g2:=zG hd cr ck
     have fu:=hh.co
     have ph:=cr.eV hh hp
     rw[nr]at fu ph
     obtain⟨b,bR⟩:=sZ (r:=r) hh.ho fu cr.vw ph rfl hx hy
     refine bR _ _ (hK _ H g2 _ w2 ⟨b,rfl,rfl⟩ ?_)
     have:=cr.both hh he hp (.refl _ _) cr.sr (.bool b) (.refl _ _) fun _ _ _ _ _ _ _ _ _ e=>e
     rwa[Cy]at this
 | @pI d xx gd s l R H Q b bi es ix cur hg hx hb hs _ ih =>
  refine⟨fun w0 g0 ws H0 g w a n ops mu is r hc ck sr hr le fr=>?_,fun w0 n ops mu df mk g0 ws H0 pre L g a w ord jB r fuel ck h1 h2 hd hl=>?_⟩
  ·obtain⟨i,te,oper,rfl,ho,fu,fw⟩:=du hc
   rw[wpOpsIn_cons]
   obtain⟨t,H',u,w',g',hM,bR,my,iX,fD,rL⟩:=wB (r:=r) ho fu hr.1 (hr.rg (pg fu)) hg sr hx hb
   refine bR _ _ ?_
   have:=(ih t H' hM).1 w0 g0 ws H0 g' w' (a.put d u) n ops mu te r fw (ck.mono my) iX (hr.put (by obtain⟨_,_,_,_,e,_,h5⟩:=br fu;cases e;exact h5) my fD) (le.trans my) (fr.trans rL)
   rwa[iR,cA (fT fu)]at this
  ·obtain⟨x,l',fH,oper,rfl,nr,h3,hh,h4⟩:=gT h1 h2
   have Cy:x.o.d=d:=by rw[nr]
   cases he:x.early with
   | true =>
    have:=(hh.kl he).1
    rw[nr]at this
    exact absurd (by cases d<;>rfl) this
   | false =>
    refine eR (Tl:=fun R' H2=>∃v,mZ H b bi es ix v H2∧R'=bA R d v) hh he (cU ord pre _ h1) (dq fH _ l' h4) ?_ ?_ fuel L g a w hl hd
    ·rintro R' H'⟨v,hM,rfl⟩ fuel L' g' a' w' hL gz
     exact(ih v H' hM).2 w0 n ops mu df mk g0 ws H0 _ L' g' a' w' fH l' r fuel (zG hd gz ck) h4 h3 gz hL
    ·intro L2 g2 a2 w2 cr hp K hK
     have KY:fS P g2:=zG hd cr ck
     have fu:=hh.co
     have ph:=cr.eV hh hp
     rw[nr]at fu ph
     obtain⟨t,H',u,w',g',hM,bR,my,iX,fD,rL⟩:=wB (r:=r) hh.ho fu cr.vw ph hg cr.sr hx hb
     refine bR _ _ (hK _ H' g' _ w' ⟨t,hM,rfl⟩ ?_)
     have dF:=cr.stays hh he hp (H':=H') (by rw[nr];exact hs t H' hM)
     have:=cr.both hh he hp my iX fD rL dF
     rwa[Cy]at this
 | @shr f as H Q M _ h2 ih =>
  intro w0 g w args ck sr hv
  obtain⟨jD,hc⟩:=ih w0 g w args ck sr hv
  refine⟨jD,hc.mono fun e w3 ⟨v,t,g3,H3,he,hM,zF,BG,fD,Cv⟩=>?_⟩
  obtain⟨t',b,cs,k,ht,iB,hb,hq⟩:=h2 _ _ hM
  cases ht
  have hφ:∃x,g3.φ b=some x:=by
   cases fD with
   | ay h=>simp only[zh]at iB;subst iB;exact⟨_,h⟩
   | bN hl h2 =>
    obtain⟨off,len,n,hm⟩:=iB
    obtain⟨i,hi⟩:=List.mem_iff_getElem?.1 hm
    have ax:=(List.getElem?_eq_some_iff.1 hi).1
    obtain⟨u,hu⟩:∃u,(Array.mk _)[i]?=some u:=⟨_,Array.getElem?_eq_getElem (Nat.lt_of_lt_of_eq ax hl.symm)⟩
    have:=h2 i _ _ hi hu
    cases this with
    | ay h=>exact⟨_,h⟩
   | _=>exact iB.elim
  obtain⟨Hk,Cw⟩:=BG.shrink k hb hφ
  exact⟨v,_,g3,_,he,hq,zF,Hk,fD,Cv.trans Cw⟩
 | @Pv f as H Q fn M hf hn _ h2 ih =>
  intro w0 g w args ck sr hv
  obtain⟨an,xH⟩:=hE.fn f fn hf
  obtain⟨F,code,res,body,hF,hb,qI,uk,jD,a7,ax,rfl⟩:=qK xH
  refine⟨jD,callsIn_of_wp_marks hF hb trivial ?_⟩
  have MX:=qL (F:=F) hv hn a7
  refine wpIn_mono (ih w0 g w _ F.ntmps an true code none uk (fun _=>rfl) ck sr MX).1 fun e a' w' DA=>?_
  obtain⟨ex,R',g',H',e1,hm,le,iX,n5,fr,vu,_⟩:=DA
  obtain⟨R2,bs,hex,QL,fv,Jd,v0,MY,hq⟩:=h2 _ _ hm
  have Wv:Mk g (gp as F.ntmps) []:=⟨[],by simp only[gp];rw[List.getD_eq_getElem?_getD,List.getElem?_eq_none (by simp only at hn;omega)];rfl,.nil⟩
  obtain⟨ts,Ct,hmo⟩:=vu Wv
  have ux:R2=R'→LeavesInM (Fw none) 0 P F a'.tmps (sY w0 g w H fun v H'=>Q (.val v) H') a'.defers .returning w':=by
   rintro rfl
   simp only at QL hq MY
   rw[Ct]at QL
   refine uv ts a'.defers bs g' H' w' R2 a' _ hmo QL fv Jd iX n5 (fun w2 v Jc KX _ zE _ fD=>⟨v,_,g',_,rfl,hq,le.trans Jc,KX,fD,fr.trans zE⟩) MY fun g w H sr hr ht=>qJ (P:=P) sr qI ax hr ht
  cases e<;>simp only[sm,Option.some.injEq,reduceCtorEq]at e1<;>subst e1
  case normal=>rcases hex with hex|hex<;>cases hex;exact ux rfl
  case exit id=>rcases hex with hex|hex<;>cases hex
  case ret=>rcases hex with hex|hex<;>cases hex;exact ux rfl
 | @fn f as H Q fn M hf hnr hn _ h2 ih =>
  intro w0 g w args ck sr hv
  obtain⟨an,xH⟩:=hE.fn f fn hf
  obtain⟨F,code,res,body,hF,hb,qI,uk,jD,a7,ax,rfl⟩:=qK xH
  refine⟨jD,callsIn_of_wp hF hb trivial ?_⟩
  have MX:=qL (F:=F) hv hn a7
  refine wpIn_mono (ih w0 g w _ F.ntmps an true code none uk (fun _=>rfl) ck sr MX).1 fun e a' w' DA=>?_
  obtain⟨ex,R',g',H',e1,hm,le,iX,n5,fr,_,zH⟩:=DA
  obtain⟨R2,hex,v0,MY,hq⟩:=h2 _ _ hm
  have ux:∀(R2:ar),R2=R'→pt R2 H' res=some v0→a'.defers=[]∧∃v,(results F a'.tmps).run P w'=.ok v w'∧sY w0 g w H (fun v H'=>Q (.val v) H') (.returned v) w':=by
   rintro R2 rfl MY
   obtain⟨v,ct,fD⟩:=qJ (P:=P) iX qI ax n5 MY
   exact⟨(zH hnr).2,v,ct,v,_,g',H',rfl,hq,le,iX,fD,fr⟩
  cases e<;>simp only[sm,Option.some.injEq,reduceCtorEq]at e1<;>subst e1
  case normal=>rcases hex with hex|hex<;>cases hex;exact ux _ rfl MY
  case exit id=>rcases hex with hex|hex<;>cases hex
  case ret=>rcases hex with hex|hex<;>cases hex;exact ux _ rfl MY
 | @A0 f as H Q b off len n i M hi _ h2 ih =>
  intro w0 g w args ck sr hv
  have ax:=(List.getElem?_eq_some_iff.1 hi).1
  have hl:=hv.1
  have QQ:=hv.2 i _ _ hi (List.getElem?_eq_getElem (by omega))
  have hex:∃c,len≤c∧VR g w (.dQ b off len n c) (args[i]'(by omega)):=by
   generalize args[i]'(by omega)=u at QQ
   cases QQ with
   | ay h hc hq=>exact⟨_,hc,.dQ h hc hq⟩
  obtain⟨c,hc,He⟩:=hex
  have IW:bD g w (as.set i (.dQ b off len n c)) args:=⟨by simp[hl],fun j t v ha hb=>by
   by_cases e:j=i
   ·subst e
    rw[List.getElem?_set_self ax]at ha
    cases ha
    rw[List.getElem?_eq_getElem (by omega)]at hb
    cases hb
    exact He
   ·rw[List.getElem?_set_ne (Ne.symm e)]at ha
    exact hv.2 j t v ha hb⟩
  obtain⟨jD,uk⟩:=ih c hc w0 g w args ck sr IW
  refine⟨jD,uk.mono fun e w3 ⟨v,t,g3,H3,he,hM,zF,BG,fD,Cv⟩=>?_⟩
  exact⟨v,_,g3,H3,he,h2 _ _ hM,zF,BG,fD.zg,Cv⟩
 | @pJ f as H Q M _ h2 ih =>
  intro w0 g w args ck sr hv
  obtain⟨jD,hc⟩:=ih w0 g w args ck sr hv
  refine⟨jD,hc.mono fun e w3 ⟨v,t,g3,H3,he,hM,zF,BG,fD,Cv⟩=>?_⟩
  obtain⟨t',b,cs,ht,iB,hb,hq⟩:=h2 _ _ hM
  cases ht
  have hφ:∃x,g3.φ b=some x:=by
   cases fD with
   | ay h=>simp only[zh]at iB;subst iB;exact⟨_,h⟩
   | bN hl h2 =>
    obtain⟨off,len,n,hm⟩:=iB
    obtain⟨i,hi⟩:=List.mem_iff_getElem?.1 hm
    have ax:=(List.getElem?_eq_some_iff.1 hi).1
    obtain⟨u,hu⟩:∃u,(Array.mk _)[i]?=some u:=⟨_,Array.getElem?_eq_getElem (Nat.lt_of_lt_of_eq ax hl.symm)⟩
    have:=h2 i _ _ hi hu
    cases this with
    | ay h=>exact⟨_,h⟩
   | _=>exact iB.elim
  obtain⟨g4,Hj,Hk,Cw,MZ⟩:=BG.freeze hb hφ
  exact⟨v,_,g4,_,he,hq,zF.trans Hj,Hk,MZ _ _ fD,Cv.trans Cw⟩
 | @A1 f as H Q b off len n cs i hi hb _ ih =>
  intro w0 g w args ck sr hv
  have ax:=(List.getElem?_eq_some_iff.1 hi).1
  have hl:=hv.1
  have QQ:=hv.2 i _ _ hi (List.getElem?_eq_getElem (by omega))
  have hφ:∃x,g.φ b=some x:=by
   generalize args[i]'(by omega)=u at QQ
   cases QQ with
   | ay h=>exact⟨_,h⟩
  obtain⟨g4,Hj,Hk,Cw,MZ⟩:=sr.freeze hb hφ
  have IW:bD g4 w (as.map (xN b cs)) args:=⟨by simp[hl],fun j t v ha iW=>by
   rw[List.getElem?_map]at ha
   obtain⟨t0,h0,rfl⟩:=Option.map_eq_some_iff.1 ha
   exact MZ _ _ (hv.2 j t0 v h0 iW)⟩
  obtain⟨jD,hc⟩:=ih w0 g4 w args (ck.mono Hj) Hk IW
  exact⟨jD,hc.mono fun e w3 ⟨v,t,g3,H3,he,hM,zF,BG,fD,Cv⟩=>⟨v,t,g3,H3,he,hM,Hj.trans zF,BG,fD,Cw.trans Cv⟩⟩
 | @ob f as H Q h =>
  intro w0 g w args ck sr hv
  exact hE.ob f as H _ h w0 g w args sr hv
inductive Sh where
 | int (k:IntKind)|str|bool
 | sl (l:List Sh)
 | ag (l:List Sh)
def BH (P:Program)(f:TypeId→Option (List Sh)):List Field→Nat→Option (List Sh)
 | [],_=>some []
 | x :: xs,off=>match f x.type with
  | some l=>if x.offset=off∧l.length=P.cellsOf x.type then(BH P f xs (off+l.length)).map (l++·)else none
  | none=>none
def zI (k:Nat)(e:TypeId)(c:Nat):List Field:=(List.range k).map fun i=>{ (default:Field)with type:=e,offset:=i*c }
def sn (P:Program):Nat→TypeId→Option (List Sh)
 | 0,_=>none
 | n+1,t=>match P.underlying t with
  | some .bool=>some [.bool]
  | some (.int k)=>some [.int k]
  | some .string=>some [.str]
  | some (.slice e)=>match sn P n e with
   | some l=>if l.length=P.cellsOf e∧l.length≠0 then some [.sl l]else none
   | none=>none
  | some (.struct fs)=>match BH P (sn P n) fs.toList 0 with
   | some l=>if l.length=P.cellsOf t then some l else none
   | none=>none
  | some (.array k e)=>match BH P (sn P n) (zI k e (P.cellsOf e)) 0 with
   | some l=>if l.length=P.cellsOf t then some l else none
   | none=>none
  | _=>none
inductive dY (B:Nat):Sh→T→Prop
 | int {k n} (h:(Lit.int k n).wf=true):dY B (.int k) (.int k n)
 | bool (b):dY B .bool (.bool b)
 | str {s:ByteArray} (h:s.size≤maxLen) (hB:s.size≤B):dY B .str (.str s)
 | nil {l}:dY B (.sl l) (.sl .nil [])
 | sl {l es} (hl:es.length≤maxLen) (hB:es.length≤B) (h0:∀c∈es,c.length=l.length) (h:∀c∈es,∀(j:Nat) (s:Sh) (t:T),l[j]?=some s→c[j]?=some t→dY B s t):dY B (.sl l) (.sl .arg es)
 | ag {l cs} (hl:cs.length=l.length) (h:∀(j:Nat) (s:Sh) (t:T),l[j]?=some s→cs[j]?=some t→dY B s t):dY B (.ag l) (.agg cs)
mutual
def T.bk:T→Nat
 | .str s=>s.size+1
 | .sl _ es=>Cz es+1
 | _=>1
def oG:List T→Nat
 | []=>0
 | t :: ts=>t.bk+oG ts
def Cz:List (List T)→Nat
 | []=>0
 | c :: es=>oG c+Cz es
end
theorem Je (a b:List T):oG (a++b)=oG a+oG b:=by
 induction a with
 | nil=>simp[oG]
 | cons t a ih=>simp only[List.cons_append,oG,ih];omega
mutual
def bU {H:Type}:DataW H→Nat
 | .lit (.string bytes)=>bytes.length+1
 | .lit _=>1
 | .nil=>1
 | .ptr d=>bU d+1
 | .slice elems spare=>bQ elems+bQ spare+1
 | .agg parts=>bQ parts+1
 | .iface _ d=>bU d+1
 | .map entries=>fk entries+1
 | .held _=>1
def bQ {H:Type}:List (DataW H)→Nat
 | []=>0
 | d :: r=>bU d+bQ r
def fk {H:Type}:List (Lit×DataW H)→Nat
 | []=>0
 | x :: r=>mz x+fk r
def mz {H:Type}:Lit×DataW H→Nat
 | (.string bytes,d)=>bytes.length+bU d+1
 | (_,d)=>bU d+1
end
theorem kG {H:Type}(d:DataW H):1≤bU d:=by
 cases d with
 | lit l=>cases l<;>simp[bU]
 | _=>simp[bU]
theorem oH {H:Type}{d:DataW H}{l:List (DataW H)}(h:d∈l):bU d≤bQ l:=by
 induction l with
 | nil=>cases h
 | cons x r ih =>
  simp only[bQ]
  rcases List.mem_cons.1 h with rfl|h
  ·omega
  ·have:=ih h;omega
theorem DB {H:Type}:∀(es:List (List T)) (ds:List (DataW H)),es.length≤ds.length→(∀(i:Nat) c d,es[i]?=some c→ds[i]?=some d→oG c≤bU d)→Cz es≤bQ ds
 | [],_,_,_=>by simp[Cz]
 | c :: es,[],h,_=>by simp at h
 | c :: es,d :: ds,h,hk=>by
  have h1:=hk 0 c d rfl rfl
  have h2:=DB es ds (by simpa using h) fun i c d a b=>hk (i+1) c d (by simpa using a) (by simpa using b)
  simp only[Cz,bQ];omega
theorem DC {H:Type}(l:List (DataW H)):l.length≤bQ l:=by
 induction l with
 | nil=>simp
 | cons x r ih=>have:=kG x;simp only[bQ,List.length_cons];omega
def g0 (P:Program)(W:World):Ctx:=⟨fun _=>none,fun r _=>if r<W.heap.size then .lQ else .free,fun _ _=>none,fun n c k=>∃an,bC P n an false k=some c⟩
theorem sr0 (P:Program)(W:World):SR W (g0 P W) [] W where
 size:=Nat.le_refl _
 jv _ _:=rfl
 A4 r o h:=by simp[g0,h]
 fresh r o h:=by simp only[g0];rw[if_neg (by omega)]
 rV b x h:=by simp[g0]at h
 iP t e x h:=by simp[g0]at h
 dP b x h:=by simp at h
 pJ r j h:=dp h
 env:=⟨rfl,rfl⟩
theorem ck0 (P:Program)(W:World):fS P (g0 P W):=fun _ _ _=>Iff.rfl
theorem zJ {α:Type}{Q:Nat→α→Prop}:∀(n:Nat),(∀i,i<n→∃c,Q i c)→∃l:List α,l.length=n∧∀(i:Nat) (c:α),l[i]?=some c→Q i c
 | 0,_=>⟨[],rfl,by simp⟩
 | n+1,h=>by
  obtain⟨l,hl,hq⟩:=zJ n fun i hi=>h i (by omega)
  obtain⟨c,hc⟩:=h n (by omega)
  refine⟨l++[c],by simp[hl],fun i d hd=>?_⟩
  by_cases hi:i<n
  ·rw[List.getElem?_append_left (by omega)]at hd;exact hq i d hd
  ·rw[List.getElem?_append_right (by omega)]at hd
   have:i=n:=by
    have:=(List.getElem?_eq_some_iff.1 hd).1;simp at this;omega
   subst this;simp[hl]at hd;subst hd;exact hc
section
variable {H:Type} {enc:TypeId×Value→H} {P:Program} {W:World} {held:Bool} {B:Nat}
theorem wG {a:Addr}{n:Nat}{cs:List Value}(h:W.cells? 0 a n=some cs):cs.length=n∧∀(j:Nat) (v:Value),cs[j]?=some v→W.cell? (a.add j)=some v:=by
 unfold World.cells? at h
 rw[if_pos (Nat.zero_le _)]at h
 have key:∀(n:Nat) (cs:List Value),(List.range n).mapM (fun i=>W.cell? (a.add i))=some cs→cs.length=n∧∀(j:Nat) (v:Value),cs[j]?=some v→W.cell? (a.add j)=some v:=by
  intro n
  induction n with
  | zero=>intro cs h;simp at h;subst h;simp
  | succ n ih =>
   intro cs h
   rw[List.range_succ,List.mapM_append]at h
   cases h1:(List.range n).mapM (fun i=>W.cell? (a.add i))with
   | none=>simp[h1]at h
   | some l =>
    cases h2:W.cell? (a.add n)with
    | none=>simp[h1,h2]at h
    | some v =>
     simp[h1,h2]at h
     subst h
     obtain⟨k1,k2⟩:=ih l h1
     refine⟨by simp[k1],fun j u hj=>?_⟩
     by_cases x8:j<n
     ·rw[List.getElem?_append_left (by omega)]at hj;exact k2 j u hj
     ·rw[List.getElem?_append_right (by omega)]at hj
      have:j=n:=by
       have:=(List.getElem?_eq_some_iff.1 hj).1;simp at this;omega
      subst this;simp[k1]at hj;subst hj;exact h2
 exact key n cs h
def Reads (enc:TypeId×Value→H)(P:Program)(W:World)(held:Bool)(B:Nat)(t:TypeId)(l:List Sh):Prop :=
 ∀fuel cs d ps,DataW.trod enc P W 0 (fun _=>true) held fuel t cs=some (d,ps)→bU d≤B→cs.length=l.length∧∃ts:List T,bD (g0 P W) W ts cs∧cy ts∧(∀(j:Nat) (s:Sh) (t:T),l[j]?=some s→ts[j]?=some t→dY B s t)∧oG ts≤bU d
theorem jG {f:TypeId→Option (List Sh)}{n:Nat}{cs:List Value}:∀(fs:List Field) (off:Nat) (l:List Sh) (xs:List (DataW H×List MemPlace)),BH P f fs off=some l→(∀x∈fs,∀l',f x.type=some l'→Reads enc P W held B x.type l') →
  xs.length=fs.length→(∀(i:Nat) (x:Field),fs[i]?=some x→DataW.trod enc P W 0 (fun _=>true) held n x.type ((cs.drop x.offset).take (P.cellsOf x.type))=xs[i]?)→(∀x∈xs,bU x.1≤B)→off+l.length≤cs.length →
  ∃ts:List T,bD (g0 P W) W ts ((cs.drop off).take l.length)∧cy ts∧(∀(j:Nat) (s:Sh) (t:T),l[j]?=some s→ts[j]?=some t→dY B s t)∧oG ts≤bQ (xs.map (·.1))
 | [],off,l,xs,h,_,_,_,_,_=>by
  simp only[BH,Option.some.injEq]at h;subst h
  exact⟨[],by simpa using bD.nil,by simp[cy],by simp,by simp[oG]⟩
 | x :: fs,off,l,xs,h,hr,hl,ht,hb,hle=>by
  simp only[BH]at h
  split at h
  ·rename_i l1 h1
   split at h
   ·rename_i hc
    simp only[Option.map_eq_some_iff]at h
    obtain⟨l2,h2,rfl⟩:=h
    cases xs with
    | nil=>simp at hl
    | cons y xs =>
     have t0:=ht 0 x rfl
     simp only[List.getElem?_cons_zero]at t0
     obtain⟨d,ps⟩:=y
     obtain⟨a1,ts1,a2,a3,a4,a5⟩:=hr x (by simp) l1 h1 n _ d ps t0 (hb (d,ps) (by simp))
     obtain⟨ts2,b2,b3,b4,b5⟩:=jG fs (off+l1.length) l2 xs h2 (fun z hz=>hr z (by simp[hz])) (by simpa using hl) (fun i z hz=>by have:=ht (i+1) z (by simpa using hz);simpa using this) (fun z hz=>hb z (by simp[hz])) (by simp at hle;omega)
     have e1:(cs.drop off).take (l1++l2).length=(cs.drop x.offset).take (P.cellsOf x.type)++(cs.drop (off+l1.length)).take l2.length:=by
      rw[hc.1,←hc.2,List.length_append,List.take_add,List.drop_drop]
     have QR:ts1.length=l1.length:=by rw[a2.1,a1]
     refine⟨ts1++ts2,by rw[e1];exact a2.append b2,fun t ht=>?_,fun j s t hs ht=>?_,by rw[Je];simp only[List.map_cons,bQ];omega⟩
     ·rcases List.mem_append.1 ht with h|h
      ·exact a3 t h
      ·exact b3 t h
     ·by_cases hj:j<l1.length
      ·rw[List.getElem?_append_left hj]at hs
       rw[List.getElem?_append_left (by omega)]at ht
       exact a4 j s t hs ht
      ·rw[List.getElem?_append_right (by omega)]at hs
       rw[List.getElem?_append_right (by omega),QR]at ht
       exact b4 _ s t hs ht
   ·cases h
  ·cases h
theorem M0 {r o:Nat}{v:Value}(h:W.cell? ⟨r,o,none⟩=some v):A2 (g0 P W) W r o v:=⟨by simp[g0,jw h],h⟩
theorem reads:∀(n:Nat) (t:TypeId) (l:List Sh),sn P n t=some l→Reads enc P W held B t l
 | 0,_,_,h=>by simp[sn]at h
 | n+1,t,l,h=>by
  intro fuel cs d ps hd hb
  simp only[sn]at h
  split at h
  ·rename_i hu;cases h
   obtain⟨b,rfl,hx⟩:=DataW.trod_bool hu hd
   exact⟨rfl,[.bool b],bD.cons (.bool b) bD.nil,by simp[cy,T.one],fun j s t hs ht=>by cases j with
    | zero=>simp at hs ht;subst hs;subst ht;exact .bool b
    | succ j=>simp at hs,by have:=kG d;simp only[oG,T.bk];omega⟩
  ·rename_i k hu;cases h
   obtain⟨m,rfl,hx,hw⟩:=DataW.trod_int hu hd
   exact⟨rfl,[.int k m],bD.cons (.int k m) bD.nil,by simp[cy,T.one],fun j s t hs ht=>by cases j with
    | zero=>simp at hs ht;subst hs;subst ht;exact .int hw
    | succ j=>simp at hs,by have:=kG d;simp only[oG,T.bk];omega⟩
  ·rename_i hu;cases h
   obtain⟨s,rfl,hx,hw⟩:=DataW.trod_string hu hd
   cases hx
   exact⟨rfl,[.str s],bD.cons (.str s) bD.nil,by simp[cy,T.one],fun j s' t hs ht=>by cases j with
    | zero=>simp at hs ht;subst hs;subst ht;exact .str hw (by simp[bU]at hb;have:s.data.size=s.size:=rfl;omega)
    | succ j=>simp at hs,by simp only[oG,T.bk,bU];have:s.data.size=s.size:=rfl;simp⟩
  ·rename_i e hu
   split at h
   ·rename_i le he
    split at h
    ·rename_i hc
     cases h
     have ih:=reads n e le he
     rcases DataW.trod_slice hu hd with⟨rfl,hx⟩|⟨a,len,cap,elems,rest,m,_,rfl,hx,_,h1,h2,h3,h4,h5,_⟩
     ·exact⟨rfl,[.sl .nil []],bD.cons .slnil bD.nil,by simp[cy,T.one],fun j s t hs ht=>by cases j with
       | zero=>simp at hs ht;subst hs;subst ht;exact .nil
       | succ j=>simp at hs,by have:=kG d;simp only[oG,T.bk,Cz];omega⟩
     ·cases hx
      have QS:∀x∈elems,bU x.1≤B:=fun x hx=>by
       have:=oH (List.mem_map_of_mem (f:=(·.1)) hx);simp only[bU]at hb;omega
      have hlB:len≤B:=by
       have:=DC (elems.map (·.1));simp only[bU]at hb;simp at this;omega
      have Dd:∀i,i<len→∃c:List T,c.length=le.length∧∃us,W.cells? 0 (a.add (i*P.cellsOf e)) (P.cellsOf e)=some us∧bD (g0 P W) W c us∧cy c∧(∀(j:Nat) (s:Sh) (t:T),le[j]?=some s→c[j]?=some t→dY B s t)∧∀d,(elems.map (·.1))[i]?=some d→oG c≤bU d:=by
       intro i hi
       have hk:=h4 i hi
       have jU:i<elems.length:=by omega
       rw[List.getElem?_eq_getElem jU]at hk
       obtain⟨us,k1,k2⟩:=Option.bind_eq_some_iff.1 hk
       obtain⟨q1,ts,q2,q3,q4,q5⟩:=ih m us elems[i].1 elems[i].2 k2 (QS _ (List.getElem_mem jU))
       exact⟨ts,by rw[q2.1,q1],us,k1,q2,q3,q4,fun d hd=>by rw[List.getElem?_map,List.getElem?_eq_getElem jU]at hd;simp only[Option.map_some,Option.some.injEq]at hd;subst hd;exact q5⟩
      obtain⟨es,he1,KZ⟩:=zJ len Dd
      have Jf:dY B (.sl le) (.sl .arg es):=.sl (by omega) (by omega) (fun c hc=>by
       obtain⟨i,hi,rfl⟩:=List.getElem_of_mem hc
       exact(KZ i _ (List.getElem?_eq_getElem hi)).1) (fun c hc=>by
       obtain⟨i,hi,rfl⟩:=List.getElem_of_mem hc
       obtain⟨_,_,_,_,_,q,_⟩:=KZ i _ (List.getElem?_eq_getElem hi)
       exact q)
      have fD:VR (g0 P W) W (.sl .arg es) (.slice (some a) len cap):=by
       by_cases m4:cap=0
       ·have:len=0:=by omega
        subst this;subst m4
        have:es=[]:=List.eq_nil_of_length_eq_zero he1
        subst this;exact .ir _
       ·have K0:a.spot=none:=by
         have kv:∃us,W.cells? 0 (a.add (0*P.cellsOf e)) (P.cellsOf e)=some us:=by
          by_cases hl:0<len
          ·obtain⟨_,_,us,k,_⟩:=Dd 0 hl;exact⟨us,k⟩
          ·have h0:len=0:=by omega
           obtain⟨k1,k2⟩:=h5 rfl
           have:=k2 0 (by omega)
           have hr:0<rest.length:=by omega
           rw[List.getElem?_eq_getElem hr,h0]at this
           obtain⟨us,k3,_⟩:=Option.bind_eq_some_iff.1 this
           exact⟨us,by simpa using k3⟩
         obtain⟨us,hus⟩:=kv
         obtain⟨k1,k2⟩:=wG hus
         have MA:0<us.length:=by omega
         have mh:=k2 0 us[0] (List.getElem?_eq_getElem MA)
         unfold World.cell? at mh
         split at mh
         ·split at mh
          ·cases mh
          ·rename_i zm;simpa[Addr.add]using zm
         ·cases mh
        obtain⟨r,o,sp⟩:=a
        simp only at K0;subst K0
        rw[←he1]
        have hn:∀c∈es,c.length=le.length:=fun c hc=>by
         obtain⟨i,hi,rfl⟩:=List.getElem_of_mem hc
         exact(KZ i _ (List.getElem?_eq_getElem hi)).1
        have kv:∀(i j:Nat) (c:List T) (t:T),es[i]?=some c→c[j]?=some t→∃v,W.cell? ⟨r,o+i*le.length+j,none⟩=some v∧VR (g0 P W) W t v∧t.one=true:=by
         intro i j c t hi hj
         obtain⟨q1,us,q2,q3,q4,_⟩:=KZ i c hi
         obtain⟨k1,k2⟩:=wG q2
         have hju:j<us.length:=by rw[←q3.1];exact(List.getElem?_eq_some_iff.1 hj).1
         refine⟨us[j],?_,q3.2 j t _ hj (List.getElem?_eq_getElem hju),q4 t (List.mem_of_getElem? hj)⟩
         have:=k2 j us[j] (List.getElem?_eq_getElem hju)
         rw[←hc.1,db,db]at this
         exact this
        refine .sl (n:=le.length) (fun i j=>(W.cell? ⟨r,o+i*le.length+j,none⟩).getD undef) trivial (by omega) hn (fun i j c t hi hj=>?_) (fun i j c t hi hj=>?_)
        ·obtain⟨v,q1,q2,q3⟩:=kv i j c t hi hj
         exact⟨q3,by rw[q1];exact M0 q1⟩
        ·obtain⟨v,q1,q2,q3⟩:=kv i j c t hi hj
         rw[q1];exact q2
      exact⟨rfl,[.sl .arg es],bD.cons fD bD.nil,by simp[cy,T.one],fun j s t hs ht=>by cases j with
       | zero=>simp at hs ht;subst hs;subst ht;exact Jf
       | succ j=>simp at hs,by
       have PO:=DB es (elems.map (·.1)) (by simp;omega) fun i c d hc hd=>by
        obtain⟨_,_,_,_,_,_,q⟩:=KZ i c hc
        exact q d hd
       simp only[oG,T.bk,bU];omega⟩
    ·cases h
   ·cases h
  ·rename_i fs hu
   split at h
   ·rename_i l' ym
    split at h
    ·rename_i hc
     cases h
     obtain⟨xs,m,_,hx,k1,k2,k3⟩:=DataW.trod_struct hu hd
     cases hx
     have QS:∀x∈xs,bU x.1≤B:=fun x hx=>by
      have:=oH (List.mem_map_of_mem (f:=(·.1)) hx);simp only[bU]at hb;omega
     obtain⟨ts,a1,a2,a3,a4⟩:=jG (n:=m) (cs:=cs) fs.toList 0 l xs ym (fun x _ l2 h2=>reads n x.type l2 h2) (by simpa using k2) (fun i x hi=>k3 i x (by simpa using hi)) QS (by omega)
     have e1:(cs.drop 0).take l.length=cs:=by rw[List.drop_zero,hc,←k1];simp
     rw[e1]at a1
     exact⟨by omega,ts,a1,a2,a3,by simp only[bU];omega⟩
    ·cases h
   ·cases h
  ·rename_i k e hu
   split at h
   ·rename_i l' ym
    split at h
    ·rename_i hc
     cases h
     obtain⟨xs,m,_,hx,k1,k2,k3⟩:=DataW.trod_array hu hd
     cases hx
     have QS:∀x∈xs,bU x.1≤B:=fun x hx=>by
      have:=oH (List.mem_map_of_mem (f:=(·.1)) hx);simp only[bU]at hb;omega
     obtain⟨ts,a1,a2,a3,a4⟩:=jG (n:=m) (cs:=cs) (zI k e (P.cellsOf e)) 0 l xs ym (fun x hx l2 h2=>by
      obtain⟨i,_,rfl⟩:=List.mem_map.1 hx;exact reads n e l2 h2) (by rw[k2];simp[zI]) (fun i x hi=>by
      simp only[zI,List.getElem?_map,Option.map_eq_some_iff]at hi
      obtain⟨j,hj,rfl⟩:=hi
      obtain⟨h1,h2⟩:=List.getElem?_eq_some_iff.1 hj
      rw[List.getElem_range]at h2
      subst h2
      exact k3 i (by simpa using h1)) QS (by omega)
     have e1:(cs.drop 0).take l.length=cs:=by rw[List.drop_zero,hc,←k1];simp
     rw[e1]at a1
     exact⟨by omega,ts,a1,a2,a3,by simp only[bU];omega⟩
    ·cases h
   ·cases h
  ·cases h
def DD (P:Program)(t:TypeId):Option Sh:=match P.underlying t with
 | some .bool|some (.int _)|some .string|some (.slice _)=>match sn P 9 t with
  | some [s]=>some s
  | _=>none
 | some (.struct _)|some (.array _ _)=>match sn P 9 t with
  | some l=>some (.ag l)
  | none=>none
 | _=>none
def qN (P:Program):List TypeId→Option (List Sh)
 | []=>some []
 | t :: ts=>match DD P t,qN P ts with
  | some s,some l=>some (s :: l)
  | _,_=>none
inductive oI (B:Nat):List Sh→List T→Prop
 | nil:oI B [] []
 | cons {s t ss ts} (h:dY B s t) (hs:oI B ss ts):oI B (s :: ss) (t :: ts)
theorem DE {base:Nat}{t:TypeId}{s:Sh}{v:Value}{d:DataW H}{p:List MemPlace}(h:DD P t=some s)(hv:Value.okWide P W .any base t v)(hf:DataW.Trod enc P W 0 (fun _=>true) held t v d p)(hB:bU d≤B) :
  ∃u:T,VR (g0 P W) W u v∧dY B s u∧u.bk≤bU d:=by
 obtain⟨fuel,hf⟩:=hf
 have one:(∀cs,v≠.agg cs)→v.cells.toList=[v]:=by
  intro h;cases v<;>first|rfl|exact absurd rfl (h _)
 have sc:v.cells.toList=[v]→(match sn P 9 t with|some [s]=>some s|_=>none)=some s→∃u:T,VR (g0 P W) W u v∧dY B s u∧u.bk≤bU d:=by
  intro Ww h
  split at h
  ·rename_i s' h3
   cases h
   obtain⟨c1,us,c2,c3,c4,c5⟩:=reads (B:=B) 9 t [s] h3 fuel _ d p hf hB
   rw[Ww]at c2
   have hul:us.length=1:=by have:=c2.1;simpa using this
   obtain⟨u,rfl⟩:∃u,us=[u]:=by
    cases us with
    | nil=>simp at hul
    | cons u us'=>cases us' with
     | nil=>exact⟨u,rfl⟩
     | cons _ _=>simp at hul
   exact⟨u,c2.head,c4 0 s u rfl rfl,by simp only[oG]at c5;omega⟩
  ·cases h
 have ag:(∃cs,v=.agg cs)→(match sn P 9 t with|some l=>some (Sh.ag l)|none=>none)=some s→∃u:T,VR (g0 P W) W u v∧dY B s u∧u.bk≤bU d:=by
  rintro⟨cs,rfl⟩ h
  split at h
  ·rename_i l h3
   cases h
   obtain⟨c1,us,c2,c3,c4,c5⟩:=reads (B:=B) 9 t l h3 fuel _ d p hf hB
   have hc:(Value.agg cs).cells.toList=cs.toList:=rfl
   rw[hc]at c1 c2
   refine⟨.agg us,.agg (by have:=c2.1;simpa using this.symm) c3 (fun i t v a b=>c2.2 i t v a (by simpa using b)),.ag (by rw[c2.1,c1]) c4,by have:=kG d;simp only[T.bk];omega⟩
  ·cases h
 simp only[DD]at h
 split at h
 ·rename_i hu
  exact sc (one (by rintro cs rfl;simp[Value.okWide,hu,Cell.okWide,Cell.ok]at hv)) h
 ·rename_i hu
  exact sc (one (by rintro cs rfl;simp[Value.okWide,hu,Cell.okWide,Cell.ok]at hv)) h
 ·rename_i hu
  exact sc (one (by rintro cs rfl;simp[Value.okWide,hu,Cell.okWide,Cell.ok]at hv)) h
 ·rename_i hu
  exact sc (one (by rintro cs rfl;simp[Value.okWide,hu,Cell.okWide,Cell.ok]at hv)) h
 ·rename_i hu
  exact ag (by cases v<;>first|exact⟨_,rfl⟩|simp[Value.okWide,hu]at hv) h
 ·rename_i hu
  exact ag (by cases v<;>first|exact⟨_,rfl⟩|simp[Value.okWide,hu]at hv) h
 ·cases h
theorem tf {base:Nat}:∀(ts:List TypeId) (Jg:List Sh) (args:List Value) (ds:List (DataW H)) (p:List MemPlace),qN P ts=some Jg→(∀(j:Nat) t v,ts[j]?=some t→args[j]?=some v→Value.okWide P W .any base t v) →
  DataW.TrodAll enc P W 0 (fun _=>true) held ts args ds p→bQ ds≤B→∃as:List T,bD (g0 P W) W as args∧oI B Jg as∧oG as≤bQ ds
 | [],Jg,args,ds,p,h,_,hA,_=>by
  cases args<;>cases ds<;>simp[DataW.TrodAll]at hA
  simp only[qN,Option.some.injEq]at h;subst h
  exact⟨[],bD.nil,.nil,by simp[oG]⟩
 | t :: ts,Jg,args,ds,p,h,BI,hA,hB=>by
  cases args with
  | nil=>cases ds<;>simp[DataW.TrodAll]at hA
  | cons v args =>
   cases ds with
   | nil=>simp[DataW.TrodAll]at hA
   | cons d ds =>
    obtain⟨p,q,hf,h2,_⟩:=hA
    simp only[qN]at h
    split at h
    ·rename_i s l h3 h4
     cases h
     simp only[bQ]at hB
     obtain⟨as,b1,b2,b3⟩:=tf ts l args ds q h4 (fun j t v a b=>BI (j+1) t v (by simpa using a) (by simpa using b)) h2 (by omega)
     obtain⟨u,c1,c2,c3⟩:=DE (B:=B) (base:=base) (d:=d) (p:=p) h3 (BI 0 t v rfl rfl) hf (by omega)
     refine⟨u :: as,bD.cons c1 b1,.cons c2 b2,?_⟩
     show T.bk u+oG as≤bU d+bQ ds
     omega
    ·cases h
end
end Go.Rmp
end

section
namespace Go.Rmp
open Go.ChangeShapes Go.RowKit
section
variable {H:Type} {enc:TypeId×Value→H} {P:Program} {W W':World}
theorem l8 {sp:Nat→Bool}{held:Bool}:∀(ts:List TypeId) (vs:List Value) (ds:List (DataW H)) (ps:List MemPlace),DataW.TrodAll enc P W 0 sp held ts vs ds ps→(∀p∈ps,W.sameAt W' p)→DataW.TrodAll enc P W' 0 sp held ts vs ds ps
 | [],[],[],_,h,_=>h
 | t :: ts,v :: vs,d :: ds,ps,⟨p,q,⟨n,hn⟩,h2,e⟩,hs=>⟨p,q,⟨n,DataW.trod_carry n t _ _ hn (fun x hx=>hs x (by rw[e];exact List.mem_append_left _ hx))⟩,l8 ts vs ds q h2 (fun x hx=>hs x (by rw[e];exact List.mem_append_right _ hx)),e⟩
 | [],_ :: _,_,_,h,_=>h.elim
 | [],[],_ :: _,_,h,_=>h.elim
 | _ :: _,[],_,_,h,_=>h.elim
 | _ :: _,_ :: _,[],_,h,_=>h.elim
theorem DF {g:Ctx}{Hh:af}(h:SR W g Hh W'):Grown W W':=by
 refine⟨⟨h.env.1,h.env.2,fun i hi=>?_⟩,fun a=>?_,h.size⟩
 ·rw[h.jv i hi]
  have:=World.keptBut_refl W (fun _=>False)
  exact this.2.2 i hi
 ·by_cases ha:a.block<W.heap.size
  ·unfold World.frozen?;rw[h.jv _ ha]
  ·have h1:=h.pJ a.block a.off (by omega)
   have h2:=dp (w:=W) (r:=a.block) (j:=a.off) (by omega)
   exact h1.trans h2.symm
theorem BJ {E:Env}(hE:zB P E){f:FuncId}{as:List T}{args:List Value}(hv:bD (g0 P W) W as args)(hW:Go.Rmp.W E (.call f as) [] (fun o _=>o=.val (.bool true))) :
  Calls P f args.toArray W fun e W'=>e=.returned (.bool true)∧Grown W W'∧∀r,r<W.heap.size→W'.heap[r]?=W.heap[r]?:=by
 obtain⟨_,hc⟩:=Go.Rmp.W.sim hE hW W (g0 P W) W args (ck0 P W) (sr0 P W) hv
 refine(callsIn_wide.1 hc).mono fun e W' ⟨v,t,g',H',he,hq,_,sr,fD,_⟩=>?_
 cases hq
 cases fD
 exact⟨he,DF sr,sr.jv⟩
theorem su {E:Env}(hE:zB P E){f:FuncId}{fn:Func}{s:ChangeSpec}{Jg:List Sh}{B:Nat}{tb:TypeId}(K:Kids P (·<P.types.size))(hz:∀t e,t<P.types.size→P.underlying t=some (.slice e)→0<P.cellsOf e)
  (Jf:qN P fn.params.toList=some Jg) (ax:∀t∈fn.params.toList,t<P.types.size) (hrt:fn.resultTypes=#[tb]) (htb:P.underlying tb=some .bool) (K1:s.vars=[])
  (xH:∀ds:List (DataW H),ds.length=fn.params.toList.length→s.fn H ds={ results:=[.lit (.bool true)],args:=ds })
  (Wx:∀as:List T,oI B Jg as→oG as≤B→Go.Rmp.W E (.call f as) [] (fun o _=>o=.val (.bool true)))
  (base:Nat) (args:Array Value) (ds gs:List (DataW H)) (before:List MemPlace)
  (BI:∀(j:Nat) t v,fn.params[j]?=some t→args[j]?=some v→Value.okWide P W .any base t v)
  (hW:DataW.Whole enc P fn.params.toList s.vars false W args.toList ds gs before) (hB:bQ (ds++gs)≤B) :
  Calls P f args W fun e W'=>∃v,e=.returned v∧s.post enc P fn false true false false W args v W':=by
 have hW':=hW
 obtain⟨p,q,hA,hV,Qm,hfz,fv⟩:=hW
 rw[K1]at hV
 obtain⟨rfl,rfl⟩:gs=[]∧q=[]:=by
  cases gs with
  | nil=>exact⟨rfl,hV⟩
  | cons _ _=>exact hV.elim
 simp only[List.append_nil]at Qm hB
 subst Qm
 obtain⟨as,hY,hss,PO⟩:=tf fn.params.toList Jg args.toList ds before Jf (fun j t v a b=>BI j t v (by simpa using a) (by simpa using b)) hA hB
 have hc:=BJ hE hY (Wx as hss (Nat.le_trans PO hB))
 rw[Array.toArray_toList]at hc
 refine hc.mono fun e W' ⟨he,hg,hold⟩=>⟨_,he,?_⟩
 have hlen:ds.length=fn.params.toList.length:=(trodAll_length hA).2
 have M3:=xH ds hlen
 refine post_of_same (pa:=before) (pv:=[]) hW' (fun b sp hd=>?_) (fun sp zm=>?_) (fun sp _=>?_) (by simp) (hg.frame _) hg.2.1 (fun j t r hj hr=>?_)
 ·rw[List.append_nil,M3,hrt]
  simp only[Value.resultList]
  exact trodAll_mk1 (shut_bool htb _)
 ·rw[List.append_nil,M3]
  refine DataW.TrodAll.respare K hz ax (l8 _ _ _ _ hA fun x hx=>?_) zm
  have hb:=hW'.lt x hx
  cases x with
  | cell b o=>simp only[World.sameAt,World.cell?];rw[hold b hb]
  | map b=>exact hold b hb
 ·rw[List.append_nil,M3,K1];rfl
 ·rw[hrt]at hj hr
  cases j with
  | zero=>simp[Value.resultList]at hj hr;subst hj;subst hr;exact okWide_bool_mk htb _
  | succ j=>simp at hj
end
end Go.Rmp
end

section
namespace Go.Rmp
def uy (R:ar)(H:af):List Rd→Prop
 | []=>True
 | r :: l=>(bL R r.g=true→ak R H r.op=some (R r.d,H))∧uy R H l
theorem mA {R:ar}{H:af}:∀(l:List Rd),uy R H l→ju R H l
 | [],_=>fun r h=>by cases h
 | x :: l,h=>fun r hr=>by
  rcases List.mem_cons.1 hr with rfl|hr
  ·exact h.1
  ·exact mA l h.2 r hr
theorem DG (R:ar)(d:Nat)(v:T):bA R (some d) v=nY R d v:=rfl
theorem DH (R:ar)(v:T):bA R none v=R:=rfl
theorem DI (R:ar)(d:Nat)(v:T)(t:Nat):nY R d v t=if t=d then v else R t:=rfl
theorem zK (a:T)(l:List T):gp (a :: l) 0=a:=rfl
theorem QT (R:ar)(t:Nat):X.ev R (.r t)=R t:=rfl
theorem QU (R:ar)(v:T):X.ev R (.c v)=v:=rfl
def DJ (R:ar)(g:Gd)(s:List Rd):Bo→Prop
 | .mP _ c x y=>g=none∧s=[]∧c=.slice∧x.ev R=.sl .arg []∧y.ev R=.sl .nil []
 | _=>False
structure Wy (E:Env)(R:ar)(H:af)(x:X)(az:List X)(P:af→Bool→Prop)(b n:Nat)(R0:ar)(ps:List Nat)(bZ body:C)(M1 M:Out→af→Prop):Prop where
 hf:x.ev R=.mO b
 hb:H[b]?=some (.loop .ready none n R0 ps bZ body)
 hn:az.length=ps.length
 h1:W E (.code bZ (iq R0 ps (az.map (X.ev R)))) H M1
 AY:∀o H',M1 o H'→(∃R1,o=.ex .normal R1)∧H'[b]?=some (.loop .ready none n R0 ps bZ body)
 h2:∀R1 H1,M1 (.ex .normal R1) H1→W E (.code body R1) (H1.set b (.loop .busy none n R0 ps bZ body)) M
 AZ:∀o H',M o H'→H'[b]?=some (.loop .busy none n R0 ps bZ body)
 h3:∀R' H',M (.ex .normal R') H'→P (H'.set b (.loop .ready none n R0 ps bZ body)) true
 h4:∀e R' H',M (.ex e R') H'→e≠.normal→P (H'.set b (.loop .done (some e) n R0 ps bZ body)) false
def fm (E:Env):List O→ar→af→(ar→af→Prop)→Prop
 | [],R,H,K=>K R H
 | ⟨d,.b b,g,s⟩ :: l,R,H,K=>match bL R g with
  | false=>fm E l (bA R d bX) H K
  | true=>match ak R H b with
   | some (v,H')=>uy R H' s∧fm E l (bA R d v) H' K
   | none=>(DJ R g s b∧∀t:Bool,fm E l (bA R d (.bool t)) H K) ∨
    ∃x bb bi es ix cur,b=.pI x∧x.ev R=.ptr bi 0∧H[bb]?=some (.cP es ix bi cur)∧∀t H',mZ H bb bi es ix t H'→uy R H' s∧fm E l (bA R d t) H' K
 | ⟨d,.call f az,g,s⟩ :: l,R,H,K=>match bL R g with
  | false=>fm E l (bA R d bX) H K
  | true=>∃M:Out→af→Prop,W E (.call f (az.map (X.ev R))) H M∧∀v H',M (.val v) H'→uy R H' s∧fm E l (bA R d v) H' K
 | ⟨d,.bB x az,g,s⟩ :: l,R,H,K=>match bL R g with
  | false=>fm E l (bA R d bX) H K
  | true=>(∃(f:Nat) (cs:List T) (M:Out→af→Prop),x.ev R=.fn f cs∧W E (.call f (az.map (X.ev R)++cs)) H M∧∀v H',M (.val v) H'→uy R H' s∧fm E l (bA R d v) H' K) ∨
   ∃b n R0 ps bZ body M1 M,Wy E R H x az (fun H' t=>uy R H' s∧fm E l (bA R d (.bool t)) H' K) b n R0 ps bZ body M1 M
theorem gU {E:Env}{Q:Out→af→Prop}:∀(l:List O) (R:ar) (H:af),fm E l R H (fun R' H'=>Q (.ex .normal R') H')→W E (.ops l R) H Q
 | [],R,H,h=>.nil h
 | ⟨d,.b b,g,s⟩ :: l,R,H,h=>by
  simp only[fm]at h
  split at h
  ·rename_i hw;exact .no hw (gU l _ _ h)
  ·rename_i hw
   split at h
   ·rename_i v H' he;exact .op hw he (mA _ h.1) (gU l _ _ h.2)
   ·rcases h with h|⟨x,bb,bi,es,ix,cur,rfl,hx,hb,h⟩
    ·cases b with
     | mP neg c x y =>
      obtain⟨⟨hg,hs,hc,hx,hy⟩,h⟩:=h
      subst hg
      exact .AX hs (fun t=>gU l _ _ (h t)) hx hy hc
     | _=>exact h.1.elim
    ·exact .pI hw hx hb (fun t H' hm=>mA _ (h t H' hm).1) fun t H' hm=>gU l _ _ (h t H' hm).2
 | ⟨d,.call f az,g,s⟩ :: l,R,H,h=>by
  simp only[fm]at h
  split at h
  ·rename_i hw;exact .no hw (gU l _ _ h)
  ·rename_i hw
   obtain⟨M,h1,h2⟩:=h
   exact .call M hw h1 (fun v H' hm=>mA _ (h2 v H' hm).1) (fun v H' hm=>gU l _ _ (h2 v H' hm).2)
 | ⟨d,.bB x az,g,s⟩ :: l,R,H,h=>by
  simp only[fm]at h
  split at h
  ·rename_i hw;exact .no hw (gU l _ _ h)
  ·rename_i hw
   rcases h with⟨f,cs,M,hf,h1,h2⟩|⟨b,n,R0,ps,bZ,body,M1,M,h⟩
   ·exact .bB M hw hf h1 (fun v H' hm=>mA _ (h2 v H' hm).1) (fun v H' hm=>gU l _ _ (h2 v H' hm).2)
   ·exact .mO M1 M hw h.hf h.hb h.hn h.h1 h.AY h.h2 h.AZ (fun R' H' hm=>mA _ (h.h3 R' H' hm).1) (fun R' H' hm=>gU l _ _ (h.h3 R' H' hm).2) (fun e R' H' hm he=>mA _ (h.h4 e R' H' hm he).1) (fun e R' H' hm he=>gU l _ _ (h.h4 e R' H' hm he).2)
def nu (K:ar→af→Prop)(Q:Out→af→Prop):Out→af→Prop
 | .ex .normal R,H=>K R H
 | o,H=>Q o H
def jH (id:Nat)(Q:Out→af→Prop):Out→af→Prop
 | .ex (.exit i) R,H=>if i=id then Q (.ex .normal R) H else Q (.ex (.exit i) R) H
 | o,H=>Q o H
def eD (E:Env):C→ar→af→(Out→af→Prop)→Prop
 | .skip,R,H,Q=>Q (.ex .normal R) H
 | .ops l,R,H,Q=>fm E l R H fun R' H'=>Q (.ex .normal R') H'
 | .seq a b,R,H,Q=>eD E a R H (nu (fun R' H'=>eD E b R' H' Q) Q)
 | .cond x a b,R,H,Q=>match x.ev R with
  | .bool true=>eD E a R H Q
  | .bool false=>eD E b R H Q
  | _=>False
 | .block id a,R,H,Q=>eD E a R H (jH id Q)
 | .exit id,R,H,Q=>Q (.ex (.exit id) R) H
 | .ret,R,H,Q=>Q (.ex .ret R) H
 | .loop a,R,H,Q=>W E (.code (.loop a) R) H Q
 | .cI n x ps a b,R,H,Q=>W E (.code (.cI n x ps a b) R) H Q
theorem gV {E:Env}:∀(c:C) (R:ar) (H:af) (Q:Out→af→Prop),eD E c R H Q→W E (.code c R) H Q
 | .skip,R,H,Q,h=>.skip h
 | .ops l,R,H,Q,h=>.Pu (gU l R H h)
 | .seq a b,R,H,Q,h=>.seq _ (gV a R H _ h) (fun R' H' hm=>gV b R' H' Q hm) (fun o H' hm hn=>by
  cases o with
  | ex e R'=>cases e with
   | normal=>exact absurd rfl (hn R')
   | exit id=>exact hm
   | ret=>exact hm
  | val v=>exact hm)
 | .cond x a b,R,H,Q,h=>by
  simp only[eD]at h
  split at h
  ·rename_i hx;exact .cond true hx (gV a R H Q h)
  ·rename_i hx;exact .cond false hx (gV b R H Q h)
  ·exact h.elim
 | .block id a,R,H,Q,h=>.block _ (gV a R H _ h) (fun R' H' hm=>by simpa[jH]using hm) (fun o H' hm hn=>by
  cases o with
  | ex e R'=>cases e with
   | normal=>exact hm
   | exit i =>
    simp only[jH]at hm
    split at hm
    ·rename_i e;subst e;exact absurd rfl (hn R')
    ·exact hm
   | ret=>exact hm
  | val v=>exact hm)
 | .exit id,R,H,Q,h=>.exit h
 | .ret,R,H,Q,h=>.ret h
 | .loop a,R,H,Q,h=>h
 | .cI n x ps a b,R,H,Q,h=>h
section
variable (E:Env) (R:ar) (H:af) (K:ar→af→Prop) (Q:Out→af→Prop) (l:List O) (d:Option Nat) (s:List Rd)
def U5:T→Bool
 | .bool c=>c
 | _=>false
def U6:T→Bool
 | .bool c=>!c
 | _=>false
def kH (b:Bo)(g:Gd)(e:Option (T×af)):Prop:=match e with
 | some (v,H')=>uy R H' s∧fm E l (bA R d v) H' K
 | none=>(DJ R g s b∧∀t:Bool,fm E l (bA R d (.bool t)) H K) ∨
  ∃x bb bi es ix cur,b=.pI x∧x.ev R=.ptr bi 0∧H[bb]?=some (.cP es ix bi cur)∧∀t H',mZ H bb bi es ix t H'→uy R H' s∧fm E l (bA R d t) H' K
def Jh (b:Bo)(g:Gd)(w:Bool):Prop:=match w with
 | false=>fm E l (bA R d bX) H K
 | true=>kH E R H K l d s b g (ak R H b)
def QV (v:T)(H':af):Prop:=uy R H' s∧fm E l (bA R d v) H' K
def wH (f:Nat)(az:List T):Prop:=∃M:Out→af→Prop,W E (.call f az) H M∧∀v H',M (.val v) H'→QV E R K l d s v H'
def Ji (f:Nat)(az:List X)(w:Bool):Prop:=match w with
 | false=>fm E l (bA R d bX) H K
 | true=>wH E R H K l d s f (az.map (X.ev R))
def cu (t:T)(az:List X):Prop:=match t with
 | .fn f cs=>wH E R H K l d s f (az.map (X.ev R)++cs)
 | _=>False
def K3 (R:ar)(H:af):Prop:=Q (.ex .normal R) H
def K4 (b:C)(R:ar)(H:af):Prop:=eD E b R H Q
def tg (a b:C)(t:T):Prop:=match t with
 | .bool true=>eD E a R H Q
 | .bool false=>eD E b R H Q
 | _=>False
theorem K5:fm E [] R H K=K R H:=rfl
theorem b_b (b:Bo):fm E (⟨d,.b b,none,s⟩ :: l) R H K=kH E R H K l d s b none (ak R H b):=rfl
theorem b_g (b:Bo)(g:Nat×Bool):fm E (⟨d,.b b,some g,s⟩ :: l) R H K=Jh E R H K l d s b (some g) (bL R (some g)):=by simp only[fm,Jh];rfl
theorem b_c (f:Nat)(az:List X):fm E (⟨d,.call f az,none,s⟩ :: l) R H K=wH E R H K l d s f (az.map (X.ev R)):=rfl
theorem QW (f:Nat)(az:List X)(g:Nat×Bool):fm E (⟨d,.call f az,some g,s⟩ :: l) R H K=Ji E R H K l d s f az (bL R (some g)):=by simp only[fm,Ji];rfl
theorem U7 {x:X}{az:List X}(h:cu E R H K l d s (x.ev R) az):fm E (⟨d,.bB x az,none,s⟩ :: l) R H K:=by
 unfold cu at h
 split at h
 ·rename_i f cs hx
  obtain⟨M,h1,h2⟩:=h
  exact .inl ⟨f,cs,M,hx,h1,h2⟩
 ·exact h.elim
theorem kJ {g:Gd}{x:X}{az:List X}(hg:bL R g=true)(h:cu E R H K l d s (x.ev R) az):fm E (⟨d,.bB x az,g,s⟩ :: l) R H K:=by
 simp only[fm,hg]
 unfold cu at h
 split at h
 ·rename_i f cs hx
  obtain⟨M,h1,h2⟩:=h
  exact .inl ⟨f,cs,M,hx,h1,h2⟩
 ·exact h.elim
theorem QX {g:Nat×Bool}{x:X}{az:List X}(hg:bL R (some g)=false):fm E (⟨d,.bB x az,some g,s⟩ :: l) R H K=fm E l (bA R d bX) H K:=by
 simp only[fm,hg]
theorem DK (neg:Bool)(c:HI)(x y:X):kH E R H K l d s (.mP neg c x y) none none=((s=[]∧c=.slice∧x.ev R=.sl .arg []∧y.ev R=.sl .nil [])∧∀t:Bool,fm E l (bA R d (.bool t)) H K):=by simp only[kH,DJ,true_and,reduceCtorEq,false_and,exists_false,or_false]
theorem yn {x:X}{g:Gd}{bb bi:Nat}{es:List (T×T)}{ix:List Nat}{cur:Option Nat}(hx:x.ev R=.ptr bi 0)(hb:H[bb]?=some (.cP es ix bi cur))(h:∀t H',mZ H bb bi es ix t H'→uy R H' s∧fm E l (bA R d t) H' K):kH E R H K l d s (.pI x) g none:=.inr ⟨x,bb,bi,es,ix,cur,rfl,hx,hb,h⟩
theorem DL (b:Bo)(g:Gd)(v:T)(H':af):kH E R H K l d s b g (some (v,H'))=(uy R H' s∧fm E l (bA R d v) H' K):=rfl
theorem K6 (b:Bo)(g:Gd):Jh E R H K l d s b g true=kH E R H K l d s b g (ak R H b):=rfl
theorem K7 (b:Bo)(g:Gd):Jh E R H K l d s b g false=fm E l (bA R d bX) H K:=rfl
theorem DM (f:Nat)(az:List X):Ji E R H K l d s f az true=wH E R H K l d s f (az.map (X.ev R)):=rfl
theorem DN (f:Nat)(az:List X):Ji E R H K l d s f az false=fm E l (bA R d bX) H K:=rfl
theorem ae {f:Nat}{az:List T}(M:Out→af→Prop)(h1:W E (.call f az) H M)(h2:∀v H',M (.val v) H'→uy R H' s∧fm E l (bA R d v) H' K):wH E R H K l d s f az:=⟨M,h1,h2⟩
theorem DP:eD E .skip R H Q=Q (.ex .normal R) H:=rfl
theorem K8:eD E (.ops l) R H Q=fm E l R H (K3 Q):=rfl
theorem zL:K3 Q R H=Q (.ex .normal R) H:=rfl
theorem fy (a b:C):eD E (.seq a b) R H Q=eD E a R H (nu (K4 E Q b) Q):=rfl
theorem DQ (x:X)(a b:C):eD E (.cond x a b) R H Q=tg E R H Q a b (x.ev R):=rfl
theorem pV (id:Nat)(a:C):eD E (.block id a) R H Q=eD E a R H (jH id Q):=rfl
theorem DR (id:Nat):eD E (.exit id) R H Q=Q (.ex (.exit id) R) H:=rfl
theorem K9:eD E .ret R H Q=Q (.ex .ret R) H:=rfl
theorem DS (a:C):eD E (.loop a) R H Q=W E (.code (.loop a) R) H Q:=rfl
theorem zM (n:Nat)(x:X)(ps:List Nat)(a b:C):eD E (.cI n x ps a b) R H Q=W E (.code (.cI n x ps a b) R) H Q:=rfl
theorem cN (b:C):K4 E Q b R H=eD E b R H Q:=rfl
theorem DT (a b:C):tg E R H Q a b (.bool true)=eD E a R H Q:=rfl
theorem DU (a b:C):tg E R H Q a b (.bool false)=eD E b R H Q:=rfl
theorem dG (R:ar)(H:af):nu K Q (.ex .normal R) H=K R H:=rfl
theorem DV (R:ar)(H:af):nu K Q (.ex .ret R) H=Q (.ex .ret R) H:=rfl
theorem DW (id:Nat)(R:ar)(H:af):nu K Q (.ex (.exit id) R) H=Q (.ex (.exit id) R) H:=rfl
theorem La (id:Nat)(R:ar)(H:af):jH id Q (.ex .normal R) H=Q (.ex .normal R) H:=rfl
theorem Lb (id:Nat)(R:ar)(H:af):jH id Q (.ex .ret R) H=Q (.ex .ret R) H:=rfl
theorem Ld (id i:Nat)(R:ar)(H:af):jH id Q (.ex (.exit i) R) H=if i=id then Q (.ex .normal R) H else Q (.ex (.exit i) R) H:=rfl
theorem DX (t:Nat):bL R (some (t,true))=U5 (R t):=by cases h:R t<;>simp[bL,U5,h]
theorem DY (t:Nat):bL R (some (t,false))=U6 (R t):=by cases h:R t<;>simp[bL,U6,h]
theorem Lf (c:Bool):U5 (.bool c)=c:=rfl
theorem Lg:U5 bX=false:=rfl
theorem Lh:U6 bX=false:=rfl
theorem Li (c:Bool):U6 (.bool c)=!c:=rfl
end
theorem W.cF {E:Env}{α:Type}{a:C}{R:ar}{H:af}{Q:Out→af→Prop}(I:α→ar→af→Prop)(μ:α→Nat)(x:α)(h0:I x R H)
  (step:∀x R H,I x R H→eD E a R H (nu (fun R' H'=>∃y,μ y<μ x∧I y R' H') Q)):W E (.code (.loop a) R) H Q:=by
 have key:∀(n:Nat) (x:α) (R:ar) (H:af),μ x=n→I x R H→W E (.code (.loop a) R) H Q:=by
  intro n
  induction n using Nat.strongRecOn with
  | _ n ih =>
   intro x R H hn hI
   refine .loop _ (gV a R H _ (step x R H hI)) (fun R' H' hm=>?_) (fun o H' hm gB=>?_)
   ·obtain⟨y,hy,Wz⟩:=hm
    exact ih (μ y) (hn▸hy) y R' H' rfl Wz
   ·cases o with
    | ex e R'=>cases e with
     | normal=>exact absurd rfl (gB R')
     | exit id=>exact hm
     | ret=>exact hm
    | val v=>exact hm
 exact key _ x R H rfl h0
def yo (res:List Rs)(Q:Out→af→Prop):Out→af→Prop
 | .ex .normal R,H | .ex .ret R,H=>match pt R H res with
  | some v=>Q (.val v) H
  | none=>False
 | _,_=>False
theorem W.bS {E:Env}{f:Nat}{fn:Fn}{az:List T}{H:af}{Q:Out→af→Prop}(hf:E.fn f=some fn)(hr:fn.body.lP=false)(hn:az.length=fn.np)(h:eD E fn.body (gp az) H (yo fn.res Q)):W E (.call f az) H Q:=by
 refine .fn _ hf hr hn (gV _ _ _ _ h) fun o H' hm=>?_
 cases o with
 | ex e R =>
  cases e with
  | normal=>simp only[yo]at hm;split at hm;exact⟨R,.inl rfl,_,by assumption,hm⟩;exact hm.elim
  | exit id=>exact hm.elim
  | ret=>simp only[yo]at hm;split at hm;exact⟨R,.inr rfl,_,by assumption,hm⟩;exact hm.elim
 | val v=>exact hm.elim
def QY (n:Nat)(res:List Rs)(Q:Out→af→Prop):Out→af→Prop
 | .ex .normal R,H | .ex .ret R,H=>∃bs,marks (R n)=some bs∧bs.Nodup∧(∀b∈bs,H[b]?=some .zf)∧match pt R (kill H bs) res with
  | some v=>Q (.val v) (kill H bs)
  | none=>False
 | _,_=>False
theorem W.QZ {E:Env}{f:Nat}{fn:Fn}{az:List T}{H:af}{Q:Out→af→Prop}(hf:E.fn f=some fn)(hn:az.length=fn.np)(h:eD E fn.body (gp az) H (QY fn.n fn.res Q)):W E (.call f az) H Q:=by
 refine .Pv _ hf hn (gV _ _ _ _ h) fun o H' hm=>?_
 cases o with
 | ex e R =>
  cases e with
  | normal=>obtain⟨bs,h1,h2,h3,h4⟩:=hm;split at h4;exact⟨R,bs,.inl rfl,h1,h2,h3,_,by assumption,h4⟩;exact h4.elim
  | exit id=>exact hm.elim
  | ret=>obtain⟨bs,h1,h2,h3,h4⟩:=hm;split at h4;exact⟨R,bs,.inr rfl,h1,h2,h3,_,by assumption,h4⟩;exact h4.elim
 | val v=>exact hm.elim
theorem W.DZ {E:Env}{n:Nat}{x:X}{ps:List Nat}{bZ body:C}{R:ar}{H:af}{Q:Out→af→Prop}{f:Nat}{cs:List T}(hx:x.ev R=.fn f cs)
  (h:W E (.call f (.mO (H.length+1) :: cs)) (H++[.zf,.loop .ready none n R ps bZ body]) (fun _ H'=>H'[H.length+1]?=some (.loop .ready none n R ps bZ body)∧Q (.ex .normal (nY R n (mY (R n) H.length))) (H'.set (H.length+1) .dead))) :
  W E (.code (.cI n x ps bZ body) R) H Q :=
 .cI _ hx h fun _ _ hm=>⟨.ready,none,by simp,by simp,hm.1,hm.2⟩
theorem Lj {E:Env}{R:ar}{H:af}{K:ar→af→Prop}{l:List O}{d:Option Nat}{s:List Rd}{x:X}{az:List X}{b n:Nat}{R0:ar}{ps:List Nat}{bZ body:C}
  (hf:x.ev R=.mO b) (hb:H[b]?=some (.loop .ready none n R0 ps bZ body)) (hn:az.length=ps.length)
  (h:eD E bZ (iq R0 ps (az.map (X.ev R))) H (fun o H1=>∃R1,o=.ex .normal R1∧H1[b]?=some (.loop .ready none n R0 ps bZ body) ∧
   eD E body R1 (H1.set b (.loop .busy none n R0 ps bZ body)) (fun o H2=>∃R2,o=.ex .normal R2∧H2[b]?=some (.loop .busy none n R0 ps bZ body) ∧
    uy R (H2.set b (.loop .ready none n R0 ps bZ body)) s∧fm E l (bA R d (.bool true)) (H2.set b (.loop .ready none n R0 ps bZ body)) K))) :
  fm E (⟨d,.bB x az,none,s⟩ :: l) R H K:=by
 refine .inr ⟨b,n,R0,ps,bZ,body,_,fun o H2=>∃R2,o=.ex .normal R2∧H2[b]?=some (.loop .busy none n R0 ps bZ body)∧uy R (H2.set b (.loop .ready none n R0 ps bZ body)) s∧fm E l (bA R d (.bool true)) (H2.set b (.loop .ready none n R0 ps bZ body)) K,hf,hb,hn,gV _ _ _ _ h,?_,?_,?_,?_,?_⟩
 ·rintro o H'⟨R1,rfl,h1,_⟩;exact⟨⟨R1,rfl⟩,h1⟩
 ·rintro R1 H1⟨_,h0,h1,h2⟩;cases h0;exact gV _ _ _ _ h2
 ·rintro o H'⟨_,_,h,_⟩;exact h
 ·rintro R' H'⟨_,h0,_,h⟩;exact h
 ·rintro e R' H'⟨_,h0,_⟩ bF;cases h0;exact absurd rfl bF
theorem W.use {E:Env}{j:J}{H:af}{Q Q':Out→af→Prop}(h:W E j H Q)(hq:∀o H',Q o H'→Q' o H'):W E j H Q':=by
 induction h generalizing Q' with
 | skip h=>exact .skip (hq _ _ h)
 | exit h=>exact .exit (hq _ _ h)
 | ret h=>exact .ret (hq _ _ h)
 | Pu _ ih=>exact .Pu (ih hq)
 | seq M h1 h2 h3 _ mT=>exact .seq M h1 (fun R' H' hm=>mT R' H' hm hq) (fun o H' hm hn=>hq _ _ (h3 o H' hm hn))
 | cond t hx _ ih=>exact .cond t hx (ih hq)
 | block M h1 h2 h3 _=>exact .block M h1 (fun R' H' hm=>hq _ _ (h2 R' H' hm)) (fun o H' hm hn=>hq _ _ (h3 o H' hm hn))
 | loop M h1 h2 h3 _ mT=>exact .loop M h1 (fun R' H' hm=>mT R' H' hm hq) (fun o H' hm hn=>hq _ _ (h3 o H' hm hn))
 | nil h=>exact .nil (hq _ _ h)
 | no hg _ ih=>exact .no hg (ih hq)
 | op hg he hs _ ih=>exact .op hg he hs (ih hq)
 | call M hg h1 hs _ _ mT=>exact .call M hg h1 hs (fun v H' hm=>mT v H' hm hq)
 | bB M hg hf h1 hs _ _ mT=>exact .bB M hg hf h1 hs (fun v H' hm=>mT v H' hm hq)
 | mO M1 M hg hf hb hn h1 AY h2 AZ zi _ Cn _ _ _ PM PN=>exact .mO M1 M hg hf hb hn h1 AY h2 AZ zi (fun R' H' hm=>PM R' H' hm hq) Cn (fun e R' H' hm he=>PN e R' H' hm he hq)
 | AX hs h hx hy hc ih=>exact .AX hs (fun b=>ih b hq) hx hy hc
 | cI M hx h1 h2 _=>exact .cI M hx h1 (fun v H' hm=>let ⟨st,pe,a,b,c,d⟩:=h2 v H' hm;⟨st,pe,a,b,c,hq _ _ d⟩)
 | Pv M hf hn h1 h2 _=>exact .Pv M hf hn h1 (fun o H' hm=>let ⟨R',bs,a,b,c,d,v,e,f⟩:=h2 o H' hm;⟨R',bs,a,b,c,d,v,e,hq _ _ f⟩)
 | fn M hf hr hn h1 h2 _=>exact .fn M hf hr hn h1 (fun o H' hm=>let ⟨R',a,v,b,c⟩:=h2 o H' hm;⟨R',a,v,b,hq _ _ c⟩)
 | A0 i M hi h1 h2 _=>exact .A0 i M hi h1 (fun v H' hm=>hq _ _ (h2 v H' hm))
 | pJ M h1 h2 _=>exact .pJ M h1 (fun o H' hm=>let ⟨v,b,cs,a,c,d,e⟩:=h2 o H' hm;⟨v,b,cs,a,c,d,hq _ _ e⟩)
 | pI hg hx hb hs _ ih=>exact .pI hg hx hb hs fun t H' hm=>ih t H' hm hq
 | shr M h1 h2 _=>exact .shr M h1 (fun o H' hm=>let ⟨v,b,cs,k,a,c,d,e⟩:=h2 o H' hm;⟨v,b,cs,k,a,c,d,hq _ _ e⟩)
 | A1 i hi hb _ ih=>exact .A1 i hi hb (ih hq)
 | ob h=>exact .ob (E.mono _ _ _ _ _ h fun t H' hm=>hq _ _ hm)
theorem cK {E:Env}{K K':ar→af→Prop}(hk:∀R H,K R H→K' R H):∀(l:List O) (R:ar) (H:af),fm E l R H K→fm E l R H K'
 | [],R,H,h=>hk _ _ h
 | ⟨d,.b b,g,s⟩ :: l,R,H,h=>by
  simp only[fm]at h ⊢
  split at h
  ·exact cK hk l _ _ h
  ·split at h
   ·exact⟨h.1,cK hk l _ _ h.2⟩
   ·rcases h with h|⟨x,bb,bi,es,ix,cur,e,hx,hb,h⟩
    ·exact .inl ⟨h.1,fun t=>cK hk l _ _ (h.2 t)⟩
    ·exact .inr ⟨x,bb,bi,es,ix,cur,e,hx,hb,fun t H' hm=>⟨(h t H' hm).1,cK hk l _ _ (h t H' hm).2⟩⟩
 | ⟨d,.call f az,g,s⟩ :: l,R,H,h=>by
  simp only[fm]at h ⊢
  split at h
  ·exact cK hk l _ _ h
  ·obtain⟨M,h1,h2⟩:=h
   exact⟨M,h1,fun v H' hm=>⟨(h2 v H' hm).1,cK hk l _ _ (h2 v H' hm).2⟩⟩
 | ⟨d,.bB x az,g,s⟩ :: l,R,H,h=>by
  simp only[fm]at h ⊢
  split at h
  ·exact cK hk l _ _ h
  ·rcases h with⟨f,cs,M,hf,h1,h2⟩|⟨b,n,R0,ps,bZ,body,M1,M,h⟩
   ·exact .inl ⟨f,cs,M,hf,h1,fun v H' hm=>⟨(h2 v H' hm).1,cK hk l _ _ (h2 v H' hm).2⟩⟩
   ·exact .inr ⟨b,n,R0,ps,bZ,body,M1,M,⟨h.hf,h.hb,h.hn,h.h1,h.AY,h.h2,h.AZ,fun R' H' hm=>⟨(h.h3 R' H' hm).1,cK hk l _ _ (h.h3 R' H' hm).2⟩,fun e R' H' hm he=>⟨(h.h4 e R' H' hm he).1,cK hk l _ _ (h.h4 e R' H' hm he).2⟩⟩⟩
theorem cL {E:Env}:∀(c:C) (R:ar) (H:af) {Q Q':Out→af→Prop},(∀o H,Q o H→Q' o H)→eD E c R H Q→eD E c R H Q'
 | .skip,R,H,Q,Q',hq,h=>hq _ _ h
 | .ops l,R,H,Q,Q',hq,h=>cK (fun R H h=>hq _ _ h) l R H h
 | .seq a b,R,H,Q,Q',hq,h=>cL a R H (fun o H' h=>by
  cases o with
  | ex e R'=>cases e with
   | normal=>exact cL b R' H' hq h
   | exit id=>exact hq _ _ h
   | ret=>exact hq _ _ h
  | val v=>exact hq _ _ h) h
 | .cond x a b,R,H,Q,Q',hq,h=>by
  simp only[eD]at h ⊢
  split at h
  ·exact cL a R H hq h
  ·exact cL b R H hq h
  ·exact h.elim
 | .block id a,R,H,Q,Q',hq,h=>cL a R H (fun o H' h=>by
  cases o with
  | ex e R'=>cases e with
   | normal=>exact hq _ _ h
   | exit i=>simp only[jH]at h ⊢;split at h<;>(rename_i e;simp only[e,if_true,if_false];exact hq _ _ h)
   | ret=>exact hq _ _ h
  | val v=>exact hq _ _ h) h
 | .exit id,R,H,Q,Q',hq,h=>hq _ _ h
 | .ret,R,H,Q,Q',hq,h=>hq _ _ h
 | .loop a,R,H,Q,Q',hq,h=>W.use h hq
 | .cI n x ps a b,R,H,Q,Q',hq,h=>W.use h hq
def py (v:T)(H:af):Out→af→Prop:=fun o H'=>o=.val v∧H'=H
theorem zN (v v':T)(H H':af):py v H (.val v') H'=(v'=v∧H'=H):=by simp[py]
theorem zO (a b:T)(l:List T):gp (a :: b :: l) 1=b:=rfl
theorem zP (a b c:T)(l:List T):gp (a :: b :: c :: l) 2=c:=rfl
theorem zQ (a b c d:T)(l:List T):gp (a :: b :: c :: d :: l) 3=d:=rfl
theorem zR (a b c d e:T)(l:List T):gp (a :: b :: c :: d :: e :: l) 4=e:=rfl
def D0 (v:T)(H:af):Out→af→Prop:=fun o H'=>o=.val v∧∃l,H'=H++l
theorem wI (v v':T)(H l:af):D0 v H (.val v') (H++l)=(v'=v):=by simp[D0]
theorem th (v v':T)(H:af):D0 v H (.val v') H=(v'=v):=by
 simp only[D0,Out.val.injEq,eq_iff_iff]
 exact⟨fun h=>h.1,fun h=>⟨h,[],by simp⟩⟩
theorem aa (k:IntKind)(n:Nat):cj (.int k (n:Int))=some n:=by simp[cj]
theorem wrap64 {n:Int}(h:-9223372036854775808≤n∧n<9223372036854775808):IntKind.i64.wrap n=n:=by
 unfold IntKind.wrap
 simp only[IntKind.signed,IntKind.bits]
 simp
 omega
theorem uz {n:Int}(h:0≤n∧n<18446744073709551616):IntKind.u64.wrap n=n:=by
 unfold IntKind.wrap
 simp only[IntKind.signed,IntKind.bits]
 simp
 omega
theorem aU {i:Nat}(h:i<9223372036854775807):IntKind.i64.wrap ((i:Int)+1)=((i+1:Nat):Int):=by rw[wrap64 (by omega)];simp
theorem lB {i:Nat}(h:i<9223372036854775807)(h1:1≤i):IntKind.i64.wrap ((i:Int)-1)=((i-1:Nat):Int):=by rw[wrap64 (by omega)];omega
theorem Q0 (v:T):valOf false [v]=some v:=rfl
theorem Q1 (cs:List T):valOf true cs=some (.agg cs):=rfl
theorem U8 (a b:Nat):decide ((a:Int)<(b:Int))=decide (a<b):=by simp
theorem U9 (a b:Nat):decide ((a:Int)≤(b:Int))=decide (a≤b):=by simp
theorem Q2 (a b:Nat):((a:Int)==(b:Int))=decide (a=b):=by rw[Bool.eq_iff_iff];simp;omega
theorem WA (a b:Nat):((a:Int) != (b:Int))=!decide (a=b):=by rw[Bool.eq_iff_iff];simp;omega
theorem D1:∀(a:List UInt8),Op.bytesLess a a=false
 | []=>rfl
 | x :: a=>by simp[Op.bytesLess,D1 a]
theorem wJ:∀(a b c:List UInt8),Op.bytesLess a b=true→Op.bytesLess b c=true→Op.bytesLess a c=true
 | _,[],_,h,_=>by cases ‹List UInt8›<;>simp[Op.bytesLess]at h
 | _,_ :: _,[],_,h=>by simp[Op.bytesLess]at h
 | [],_ :: _,_ :: _,_,_=>rfl
 | x :: a,y :: b,z :: c,h1,h2=>by
  simp only[Op.bytesLess,Bool.or_eq_true,decide_eq_true_eq,Bool.and_eq_true,beq_iff_eq]at h1 h2 ⊢
  rcases h1 with h1|⟨rfl,h1⟩
  ·rcases h2 with h2|⟨rfl,h2⟩
   ·exact .inl (UInt8.lt_trans h1 h2)
   ·exact .inl h1
  ·rcases h2 with h2|⟨rfl,h2⟩
   ·exact .inl h2
   ·exact .inr ⟨rfl,wJ a b c h1 h2⟩
theorem D2:∀(a b:List UInt8),Op.bytesLess a b=false→Op.bytesLess b a=false→a=b
 | [],[],_,_=>rfl
 | [],_ :: _,h,_=>by simp[Op.bytesLess]at h
 | _ :: _,[],_,h=>by simp[Op.bytesLess]at h
 | x :: a,y :: b,h1,h2=>by
  simp only[Op.bytesLess,Bool.or_eq_false_iff,decide_eq_false_iff_not,Bool.and_eq_false_iff,beq_eq_false_iff_ne]at h1 h2
  have e:x=y:=by
   have a1:=h1.1;have a2:=h2.1
   exact UInt8.le_antisymm (UInt8.not_lt.1 a2) (UInt8.not_lt.1 a1)
  subst e
  rw[D2 a b (h1.2.resolve_left (fun h=>h rfl)) (h2.2.resolve_left (fun h=>h rfl))]
theorem toList_inj {a b:ByteArray}(h:a.toList=b.toList):a=b:=by
 have e:∀c:ByteArray,c.toList=c.data.toList:=fun c=>Go.ByteArray.toList_eq c
 rw[e,e]at h
 cases a;cases b
 simp only[ByteArray.mk.injEq]
 exact Array.toList_inj.1 h
theorem fU (a b:ByteArray):iZ a b=decide (a=b):=by
 unfold iZ
 rw[Bool.eq_iff_iff]
 simp only[beq_iff_eq,decide_eq_true_eq]
 exact⟨toList_inj,fun h=>by rw[h]⟩
theorem eX (a:ByteArray):strLt a a=false:=D1 _
theorem eo {a b c:ByteArray}(h1:strLt a b=true)(h2:strLt b c=true):strLt a c=true:=wJ _ _ _ h1 h2
theorem qO {a b:ByteArray}(h1:strLt a b=false)(h2:strLt b a=false):a=b:=toList_inj (D2 _ _ h1 h2)
theorem lt_asymm {a b:ByteArray}(h:strLt a b=true):strLt b a=false:=by
 cases e:strLt b a with
 | false=>rfl
 | true=>have:=eo h e;rw[eX]at this;cases this
theorem not_le (a b:ByteArray):(!(strLt b a||iZ b a))=strLt a b:=by
 cases h:strLt a b with
 | true =>
  have h1:=lt_asymm h
  have h2:iZ b a=false:=by rw[fU];simp;rintro rfl;rw[eX]at h;cases h
  simp[h1,h2]
 | false =>
  cases h1:strLt b a with
  | true=>simp
  | false=>have:=qO h h1;subst this;simp[fU]
def At (H:af)(P:af→Prop):Prop:=P H
theorem At.i {H:af}{P:af→Prop}(h:P H):At H P:=h
def Ext (H H':af):Prop:=∃m,H'=H++m
theorem Ext.rfl' {H:af}:Ext H H:=⟨[],by simp⟩
theorem Ext.trans {H H' vI:af}(h:Ext H H')(h':Ext H' vI):Ext H vI:=by
 obtain⟨a,rfl⟩:=h;obtain⟨b,rfl⟩:=h';exact⟨a++b,by simp⟩
theorem Ext.app {H H':af}(h:Ext H H')(l:af):Ext H (H'++l):=h.trans ⟨l,rfl⟩
theorem Ext.set {H H':af}(h:Ext H H'){b:Nat}(hb:H.length≤b)(x:B):Ext H (H'.set b x):=by
 obtain⟨m,rfl⟩:=h
 exact⟨m.set (b-H.length) x,by rw[List.set_append_right _ _ hb]⟩
theorem Ext.get {H H':af}(h:Ext H H'){b:Nat}{x:B}(hx:H[b]?=some x):H'[b]?=some x:=by
 obtain⟨m,rfl⟩:=h
 have:=(List.getElem?_eq_some_iff.1 hx).1
 rw[List.getElem?_append_left this];exact hx
theorem Ext.len {H H':af}(h:Ext H H'):H.length≤H'.length:=by obtain⟨m,rfl⟩:=h;simp
theorem aW {H:af}{b:Nat}{x:B}(hx:H[b]?=some x):b<H.length:=(List.getElem?_eq_some_iff.1 hx).1
theorem aX {H l:af}{x:B}{b:Nat}(h:b=H.length):(H++x :: l)[b]?=some x:=by subst h;simp
theorem aV {H l:af}{b:Nat}(h:b<H.length):(H++l)[b]?=H[b]?:=by rw[List.getElem?_append_left h]
theorem bT {H:af}{x:B}{b:Nat}(h:b<H.length):(H.set b x)[b]?=some x:=by simp[h]
theorem bh {H:af}{x:B}{b c:Nat}(h:b≠c):(H.set b x)[c]?=H[c]?:=by simp[h]
theorem uA {H l:af}{x y:B}{b:Nat}(h:b=H.length):(H++x :: l).set b y=H++y :: l:=by subst h;simp
theorem Lk {H l:af}{x:B}{b:Nat}(h:b<H.length):(H++l).set b x=H.set b x++l:=by rw[List.set_append_left _ _ h]
theorem Ll {H l:af}{b:Nat}(h:b<H.length):(b<(H++l).length)=True:=by simp;omega
theorem Lm {H:af}{x:B}{b c:Nat}:(b<(H.set c x).length)=(b<H.length):=by simp
theorem Ln {H:af}{x:B}{b c:Nat}:(b=(H.set c x).length)=(b=H.length):=by simp
def qP (n off:Nat):Option B→Option (List T)
 | some (.cells cs)=>if off+n≤cs.length then some ((cs.drop off).take n)else none
 | _=>none
theorem zS (H:af)(n b off:Nat):pr H n (.ptr b off)=qP n off H[b]?:=by
 simp only[pr,qP];rfl
theorem fo (H:af)(n:Nat)(cs:List T):pr H n (.dL cs)=if n≤cs.length then some (cs.take n)else none:=rfl
theorem mB (n off:Nat)(cs:List T):qP n off (some (.cells cs))=if off+n≤cs.length then some ((cs.drop off).take n)else none:=rfl
def oJ (H:af)(b:Nat)(vs:List T)(off:Nat):Option B→Option af
 | some (.cells cs)=>if off+vs.length≤cs.length then some (H.set b (.cells (cs.take off++vs++cs.drop (off+vs.length))))else none
 | _=>none
theorem zT (H:af)(vs:List T)(b off:Nat):Qa H vs (.ptr b off)=oJ H b vs off H[b]?:=by
 simp only[Qa,oJ];rfl
theorem gW (H:af)(b:Nat)(vs:List T)(off:Nat)(cs:List T):oJ H b vs off (some (.cells cs))=if off+vs.length≤cs.length then some (H.set b (.cells (cs.take off++vs++cs.drop (off+vs.length))))else none:=rfl
theorem oK (H l:af)(x y:B):(H++x :: l).set H.length y=H++y :: l:=uA rfl
theorem zU (off b o:Nat):vF off (.ptr b o)=some (.ptr b (o+off)):=rfl
def dr (id:Nat)(P:ar→af→Prop)(Q:Out→af→Prop):Out→af→Prop
 | .ex (.exit i) R,H=>if i=id then P R H else Q (.ex (.exit i) R) H
 | o,H=>Q o H
theorem Q3 (id:Nat)(P:ar→af→Prop)(Q:Out→af→Prop)(R:ar)(H:af):dr id P Q (.ex .normal R) H=Q (.ex .normal R) H:=rfl
theorem Q4 (id:Nat)(P:ar→af→Prop)(Q:Out→af→Prop)(R:ar)(H:af):dr id P Q (.ex .ret R) H=Q (.ex .ret R) H:=rfl
theorem Q5 (id i:Nat)(P:ar→af→Prop)(Q:Out→af→Prop)(R:ar)(H:af):dr id P Q (.ex (.exit i) R) H=if i=id then P R H else Q (.ex (.exit i) R) H:=rfl
theorem W.cM {E:Env}{α:Type}{a:C}{R:ar}{H:af}{Q:Out→af→Prop}(id:Nat)(I:α→ar→af→Prop)(μ:α→Nat)(x:α)(P:ar→af→Prop)(h0:I x R H)
  (step:∀x R H,I x R H→eD E a R H (nu (fun R' H'=>∃y,μ y<μ x∧I y R' H') (dr id P Q))) (rest:∀R H,P R H→Q (.ex (.exit id) R) H):W E (.code (.loop a) R) H Q :=
 W.use (W.cF I μ x h0 step) fun o H' h=>by
  cases o with
  | ex e R'=>cases e with
   | exit i=>simp only[dr]at h;split at h;rename_i e;subst e;exact rest _ _ h;exact h
   | normal=>exact h
   | ret=>exact h
  | val v=>exact h
def ah {α β:Type}[DecidableEq α](es:List (α×β))(k:α):Option β:=(es.find? fun e=>decide (k=e.1)).map (·.2)
def cq {α β:Type}[DecidableEq α](es:List (α×β))(k:α)(v:β):List (α×β) :=
 match es.findIdx? fun e=>decide (k=e.1)with
 | some i=>es.set i (k,v)
 | none=>es++[(k,v)]
def lR {α β:Type}[DecidableEq α](es:List (α×β))(k:α):List (α×β) :=
 match es.findIdx? fun e=>decide (k=e.1)with
 | some i=>es.eraseIdx i
 | none=>es
section
variable {α β:Type} [DecidableEq α]
theorem dC (k:α):ah ([]:List (α×β)) k=none:=rfl
theorem bG (e:α×β)(es:List (α×β))(k:α):ah (e :: es) k=if k=e.1 then some e.2 else ah es k:=by
 unfold ah;rw[List.find?_cons];by_cases h:k=e.1<;>simp[h]
theorem D3 (k:α)(v:β):cq [] k v=[(k,v)]:=rfl
theorem oL (e:α×β)(es:List (α×β))(k:α)(v:β):cq (e :: es) k v=if k=e.1 then(k,v) :: es else e :: cq es k v:=by
 unfold cq;rw[List.findIdx?_cons]
 by_cases h:k=e.1
 ·simp[h]
 ·simp only[h,decide_false,if_false,Bool.false_eq_true]
  cases List.findIdx? (fun e=>decide (k=e.1)) es<;>simp
theorem bn (es:List (α×β))(k k':α)(v:β):ah (cq es k v) k'=if k'=k then some v else ah es k':=by
 induction es with
 | nil=>rw[D3,bG]
 | cons e es ih =>
  rw[oL]
  by_cases h:k=e.1
  ·simp only[h,if_true,bG];by_cases h':k'=e.1<;>simp[h']
  ·simp only[h,if_false,bG,ih]
   by_cases h':k'=e.1
   ·subst h';simp[Ne.symm h]
   ·simp[h']
theorem ti (es:List (α×β))(k:α):ah es k=match es.findIdx? fun e=>decide (k=e.1)with
  | some i=>(es[i]?).map (·.2)
  | none=>none:=by
 induction es with
 | nil=>rfl
 | cons e es ih =>
  rw[bG,List.findIdx?_cons]
  by_cases h:k=e.1
  ·simp[h]
  ·simp only[h,if_false,decide_false,Bool.false_eq_true,ih]
   cases List.findIdx? (fun e=>decide (k=e.1)) es<;>simp
theorem D4 {es:List (α×β)}{k:α}{i:Nat}(h:(es.findIdx? fun e=>decide (k=e.1))=some i):∃v,es[i]?=some (k,v):=by
 rw[List.findIdx?_eq_some_iff_getElem]at h
 obtain⟨hi,h,-⟩:=h
 refine⟨es[i].2,?_⟩
 rw[List.getElem?_eq_getElem hi]
 simp only[decide_eq_true_eq]at h
 rw[h]
end
def ba {α:Type}(ek:α→T)(es:List (α×T)):List (T×T):=es.map fun e=>(ek e.1,e.2)
structure qQ {α:Type}[DecidableEq α](kt:KT)(ek:α→T):Prop where
 has:∀a,(ek a).iL kt=true
 eq:∀a b,gJ (ek a) (ek b)=some (decide (a=b))
section
variable {α:Type} [DecidableEq α] {kt:KT} {ek:α→T}
theorem uB (ho:qQ kt ek)(k:α):∀es:List (α×T),cZ (ek k) (ba ek es)=some (es.findIdx? fun e=>decide (k=e.1))
 | []=>rfl
 | e :: es=>by
  have ih:=uB ho k es
  simp only[ba]at ih ⊢
  simp only[List.map_cons,cZ,ho.eq,List.findIdx?_cons]
  cases h:decide (k=e.1)
  ·simp[ih]
  ·simp
def iS (o:Option T)(z:T)(ok:Bool):T:=match o with
 | some v=>if ok then .bN [v,.bool true]else v
 | none=>if ok then .bN [z,.bool false]else z
def yp (kt:KT)(z:T)(ok:Bool)(H:af)(mb:Option B)(k:T):Option (T×af):=match mb with
 | some (.map es)=>if k.iL kt then match cZ k es with
  | some (some i)=>match es[i]? with
   | some e=>some (if ok then .bN [e.2,.bool true]else e.2,H)
   | none=>none
  | some none=>some (if ok then .bN [z,.bool false]else z,H)
  | none=>none else none
 | some (.cP es _ _ _)=>if k.iL kt then match cZ k es with
  | some (some i)=>match es[i]? with
   | some e=>some (if ok then .bN [e.2,.bool true]else e.2,H)
   | none=>none
  | some none=>some (if ok then .bN [z,.bool false]else z,H)
  | none=>none else none
 | _=>none
def M4 (kt:KT)(z:T)(ok:Bool)(H:af)(m k:T):Option (T×af):=match m with
 | .map b=>yp kt z ok H H[b]? k
 | .gh=>if k.iL kt then some (if ok then .bN [z,.bool false]else z,H)else none
 | _=>none
theorem D5 (R:ar)(H:af)(kt:KT)(z:T)(ok:Bool)(m k:X):ak R H (.mW kt z ok m k)=M4 kt z ok H (m.ev R) (k.ev R):=by
 unfold M4 yp
 simp only[ak]
 cases h1:(k.ev R).iL kt
 ·simp only[Bool.false_eq_true,if_false]
  cases m.ev R with
  | map b=>simp only;split<;>rfl
  | _=>rfl
 ·simp only[if_true]
  cases m.ev R with
  | map b =>
   simp only[gn]
   cases H[b]? with
   | none=>rfl
   | some x=>cases x<;>rfl
  | gh=>simp only[gn,cZ]
  | _=>rfl
theorem wO (kt:KT)(z:T)(ok:Bool)(H:af)(b:Nat)(k:T):M4 kt z ok H (.map b) k=yp kt z ok H H[b]? k:=rfl
theorem kM (ho:qQ kt ek)(z:T)(ok:Bool)(H:af)(es:List (α×T))(s:α):yp kt z ok H (some (.map (ba ek es))) (ek s)=some (iS (ah es s) z ok,H):=by
 simp only[yp,ho.has,uB ho,if_true,ti]
 cases h:List.findIdx? (fun e=>decide (s=e.1)) es with
 | none=>cases ok<;>rfl
 | some i =>
  obtain⟨v,hv⟩:=D4 h
  have:(ba ek es)[i]?=some (ek s,v):=by simp[ba,hv]
  simp only[this,hv,iS,Option.map_some]
def wP (kt:KT)(H:af)(b:Nat)(mb:Option B)(k v:T):Option (T×af):=match mb with
 | some (.map es)=>if k.iL kt then match cZ k es with
  | some (some i)=>some (bX,H.set b (.map (es.set i (k,v))))
  | some none=>some (bX,H.set b (.map (es++[(k,v)])))
  | none=>none else none
 | _=>none
def M5 (kt:KT)(H:af)(m k v:T):Option (T×af):=match m with
 | .map b=>wP kt H b H[b]? k v
 | _=>none
theorem D6 (R:ar)(H:af)(kt:KT)(m k v:X):ak R H (.ze kt m k v)=M5 kt H (m.ev R) (k.ev R) (v.ev R):=by
 unfold M5 wP
 simp only[ak]
 cases m.ev R with
 | map b =>
  simp only
  cases h1:(k.ev R).iL kt
  ·simp only[Bool.false_eq_true,if_false];split<;>rfl
  ·simp only[if_true]
   cases H[b]? with
   | none=>rfl
   | some x=>cases x<;>rfl
 | _=>rfl
theorem wQ {β γ:Type}(f:β→γ):∀(l:List β) (j:Nat),(l.map f).eraseIdx j=(l.eraseIdx j).map f
 | [],_=>by simp
 | _ :: _,0=>by simp
 | _ :: l,j+1=>by simp[wQ f l j]
def D7 (kt:KT)(H:af)(b:Nat)(mb:Option B)(k:T):Option (T×af):=match mb with
 | some (.map es)=>if k.iL kt then match cZ k es with
  | some (some i)=>some (.bN [],H.set b (.map (es.eraseIdx i)))
  | some none=>some (.bN [],H)
  | none=>none else none
 | _=>none
def M6 (kt:KT)(H:af)(m k:T):Option (T×af):=match m with
 | .map b=>D7 kt H b H[b]? k
 | _=>none
theorem D8 (R:ar)(H:af)(kt:KT)(m k:X):ak R H (.del kt m k)=M6 kt H (m.ev R) (k.ev R):=by
 unfold M6 D7
 simp only[ak]
 cases m.ev R with
 | map b =>
  simp only
  cases h1:(k.ev R).iL kt
  ·simp only[Bool.false_eq_true,if_false];split<;>rfl
  ·simp only[if_true]
   cases H[b]? with
   | none=>rfl
   | some x=>cases x<;>rfl
 | _=>rfl
theorem wR (kt:KT)(H:af)(b:Nat)(k:T):M6 kt H (.map b) k=D7 kt H b H[b]? k:=rfl
def pz (es:List (α×T))(s:α):List (α×T):=match es.findIdx? (fun e=>decide (s=e.1))with
 | some i=>es.eraseIdx i
 | none=>es
theorem D9 (ho:qQ kt ek)(H:af)(b:Nat)(es:List (α×T))(s:α){v:T}(hv:ah es s=some v):D7 kt H b (some (.map (ba ek es))) (ek s)=some (.bN [],H.set b (.map (ba ek (pz es s)))):=by
 rw[ti]at hv
 simp only[D7,ho.has,uB ho,if_true,pz]
 cases h:List.findIdx? (fun e=>decide (s=e.1)) es with
 | none=>rw[h]at hv;simp at hv
 | some i=>simp only[ba,Option.some.injEq,Prod.mk.injEq,true_and];congr 2;rw[wQ]
def M7 (H:af)(b:Nat):Option B→Option (T×af)
 | some (.map es)=>some (.ptr H.length 0,H.set b (.cP es (List.range es.length) H.length none)++[.ua b])
 | some (.cP es _ _ _)=>some (.ptr H.length 0,H.set b (.cP es (List.range es.length) H.length none)++[.ua b])
 | _=>none
def M8 (H:af):T→Option (T×af)
 | .map b=>M7 H b H[b]?
 | _=>none
theorem Ea (R:ar)(H:af)(x:X):ak R H (.L9 x)=M8 H (x.ev R):=by
 simp only[ak]
 cases x.ev R with
 | map b =>
  simp only[gn,M8]
  cases H[b]? with
  | none=>rfl
  | some y=>cases y<;>rfl
 | _=>rfl
theorem wT (H:af)(b:Nat):M8 H (.map b)=M7 H b H[b]?:=rfl
theorem Eb (H:af)(b:Nat)(es:List (T×T)):M7 H b (some (.map es))=some (.ptr H.length 0,H.set b (.cP es (List.range es.length) H.length none)++[.ua b]):=rfl
theorem Ec (R:ar)(H:af)(x:X):ak R H (.pI x)=none:=rfl
def Jj (H:af)(bi:Nat):Option B→Option (T×af)
 | some (.cP es _ Qb (some c))=>if Qb=bi then(es[c]?).map fun e=>(.bN [e.1,e.2],H)else none
 | _=>none
def Jk (H:af)(bi:Nat):Option B→Option (T×af)
 | some (.ua b)=>Jj H bi H[b]?
 | _=>none
def M9 (H:af):T→Option (T×af)
 | .ptr bi 0=>Jk H bi H[bi]?
 | _=>none
theorem Ed (R:ar)(H:af)(x:X):ak R H (.Ma x)=M9 H (x.ev R):=by
 simp only[ak]
 cases x.ev R with
 | ptr bi o =>
  cases o with
  | zero =>
   simp only[M9]
   cases H[bi]? with
   | none=>rfl
   | some y=>cases y with
    | ua b =>
     simp only[Jk]
     cases H[b]? with
     | none=>rfl
     | some z=>cases z with
      | cP es ix Qb cur=>cases cur<;>rfl
      | _=>rfl
    | _=>rfl
  | succ _=>rfl
 | _=>rfl
theorem wU (H:af)(bi:Nat):M9 H (.ptr bi 0)=Jk H bi H[bi]?:=rfl
theorem Ee (H:af)(bi b:Nat):Jk H bi (some (.ua b))=Jj H bi H[b]?:=rfl
theorem Ef (H:af)(bi:Nat)(es:List (T×T))(ix:List Nat)(c:Nat):Jj H bi (some (.cP es ix bi (some c)))=(es[c]?).map fun e=>(.bN [e.1,e.2],H):=by simp only[Jj,if_true]
def Jl (H:af)(b off len n n':Nat)(z:List T):Option B→Option (T×af)
 | some (.cells cs)=>if n'=n∧z.length=n∧off+len*n≤cs.length then some (bX,H.set b (.cells (cs.take off++(List.replicate len z).flatten++cs.drop (off+len*n))))else none
 | _=>none
def Na (H:af)(n:Nat)(z:List T):T→Option (T×af)
 | .ay b off len n'=>Jl H b off len n n' z H[b]?
 | _=>none
theorem Eg (R:ar)(H:af)(n:Nat)(z:List T)(x:X):ak R H (.Ps n z x)=Na H n z (x.ev R):=by
 simp only[ak]
 cases x.ev R with
 | ay b off len n' =>
  simp only[Na]
  cases H[b]? with
  | none=>rfl
  | some y=>cases y<;>rfl
 | _=>rfl
theorem nv (H:af)(n:Nat)(z:List T)(b off len n':Nat):Na H n z (.ay b off len n')=Jl H b off len n n' z H[b]?:=rfl
theorem wV (kt:KT)(H:af)(b:Nat)(k v:T):M5 kt H (.map b) k v=wP kt H b H[b]? k v:=rfl
theorem uC (ho:qQ kt ek)(H:af)(b:Nat)(es:List (α×T))(s:α)(v:T):wP kt H b (some (.map (ba ek es))) (ek s) v=some (bX,H.set b (.map (ba ek (cq es s v)))):=by
 simp only[wP,ho.has,uB ho,if_true,cq]
 cases h:List.findIdx? (fun e=>decide (s=e.1)) es with
 | none=>simp[ba]
 | some i=>simp[ba]
end
theorem Q6:qQ (.sc .str) T.str:=⟨fun _=>rfl,fun a b=>by simp only[gJ,iM,fU]⟩
def kU (n:Nat):T:=.int .u64 n
theorem Nb:qQ (.sc .int) kU:=⟨fun _=>rfl,fun a b=>by simp only[kU,gJ,iM,if_true,Q2]⟩
theorem fp (z:T)(ok:Bool)(H:af)(es:List (ByteArray×T))(s:ByteArray):yp (.sc .str) z ok H (some (.map (ba T.str es))) (.str s)=some (iS (ah es s) z ok,H):=kM Q6 z ok H es s
theorem kO (z:T)(ok:Bool)(H:af)(es:List (Nat×T))(s:Nat):yp (.sc .int) z ok H (some (.map (ba kU es))) (.int .u64 s)=some (iS (ah es s) z ok,H):=kM Nb z ok H es s
theorem mC (H:af)(b:Nat)(es:List (ByteArray×T))(s:ByteArray)(v:T):wP (.sc .str) H b (some (.map (ba T.str es))) (.str s) v=some (bX,H.set b (.map (ba T.str (cq es s v)))):=uC Q6 H b es s v
theorem qR (H:af)(b:Nat)(es:List (Nat×T))(s:Nat)(v:T):wP (.sc .int) H b (some (.map (ba kU es))) (.int .u64 s) v=some (bX,H.set b (.map (ba kU (cq es s v)))):=uC Nb H b es s v
theorem wW (v z:T):iS (some v) z false=v:=rfl
theorem wX (z:T):iS none z false=z:=rfl
theorem tj (v z:T):iS (some v) z true=.bN [v,.bool true]:=rfl
theorem tn (z:T):iS none z true=.bN [z,.bool false]:=rfl
theorem tp (l:List T):(T.agg l).cells?=some l:=rfl
theorem tq (k:IntKind)(n:Int):(T.int k n).cells?=some [.int k n]:=rfl
theorem tt (s:ByteArray):(T.str s).cells?=some [.str s]:=rfl
theorem qS (s:Bool):(T.bool s).cells?=some [.bool s]:=rfl
theorem wY (k:SK)(l:List (List T)):(T.sl k l).cells?=some [.sl k l]:=rfl
theorem tu (a b c d:Nat):(T.ay a b c d).cells?=some [.ay a b c d]:=rfl
theorem tv (b:Nat):(T.map b).cells?=some [.map b]:=rfl
theorem tw (a b:Nat):(T.ptr a b).cells?=some [.ptr a b]:=rfl
theorem qT:(T.gh).cells?=some [.gh]:=rfl
theorem qU:(T.bV).cells?=some [.bV]:=rfl
theorem Q7 (v:T):AW [v]=v:=rfl
theorem Q8 (v w:T):AW [v,w]=.bN [v,w]:=rfl
theorem Q9 (v w x:T):AW [v,w,x]=.bN [v,w,x]:=rfl
theorem Eh (k:IntKind)(n:Int):(T.int k n).erase=.int k n:=rfl
theorem Ei (s:ByteArray):(T.str s).erase=.str s:=rfl
theorem zV (s:Bool):(T.bool s).erase=.bool s:=rfl
theorem Lo (k:SK)(l:List (List T)):(T.sl k l).erase=.sl .arg l:=rfl
theorem Ej (a b:Nat):(T.ptr a b).erase=.ptr a b:=rfl
theorem uD (b:Nat):(T.map b).erase=.map b:=rfl
theorem zW:(T.gh).erase=.gh:=rfl
theorem zX:(T.bV).erase=.bV:=rfl
theorem Lp (H:af)(n:Nat)(k:SK)(es:List (List T)):bK H n (.sl k es)=if es.all (·.length==n)then some es else none:=rfl
theorem Ek (R:ar):bL R Option.none=true:=rfl
theorem El (p:Prop):(True→p)=p:=by simp
theorem Lq (p:Prop):(p→True)=True:=by simp
theorem Lr (p:Prop):(true=true→p)=p:=by simp
theorem Ls (p:Prop):(false=true→p)=True:=by simp
theorem Em (b:Bool):KM .not (.bool b)=some (.bool !b):=rfl
theorem En (k:IntKind)(a b:Int):cG .add (.int k a) (.int k b)=some (.int k (k.wrap (a+b))):=by simp[cG]
theorem Eo (k:IntKind)(a b:Int):cG .sub (.int k a) (.int k b)=some (.int k (k.wrap (a-b))):=by simp[cG]
theorem Ep (k:IntKind)(a b:Int):cG .mul (.int k a) (.int k b)=some (.int k (k.wrap (a*b))):=by simp[cG]
theorem Er (k:IntKind)(a b:Int):cG .quo (.int k a) (.int k b)=if b=0 then none else some (.int k (k.wrap (a.tdiv b))):=by simp[cG]
theorem Es (k:IntKind)(a b:Int):cG .rem (.int k a) (.int k b)=if b=0 then none else some (.int k (a.tmod b)):=by simp[cG]
theorem Et (k k':IntKind)(a b:Int):cG .shl (.int k a) (.int k' b)=if b<0 then none else some (.int k (k.wrap (a*2^(min b.toNat k.bits)))):=by simp[cG]
theorem Eu (k k':IntKind)(a b:Int):cG .shr (.int k a) (.int k' b)=if b<0 then none else some (.int k (a.fdiv (2^(min b.toNat k.bits)))):=by simp[cG]
theorem Ev (k:IntKind)(a b:Int):cG .and (.int k a) (.int k b)=some (.int k (k.wrap (BitVec.ofInt k.bits a &&& BitVec.ofInt k.bits b).toNat)):=by simp[cG]
theorem Lt (k:IntKind)(a b:Int):cG .or (.int k a) (.int k b)=some (.int k (k.wrap (BitVec.ofInt k.bits a ||| BitVec.ofInt k.bits b).toNat)):=by simp[cG]
theorem Ew (k:IntKind)(a b:Int):cG .xor (.int k a) (.int k b)=some (.int k (k.wrap (BitVec.ofInt k.bits a ^^^ BitVec.ofInt k.bits b).toNat)):=by simp[cG]
theorem Ey (k:IntKind)(a b:Int):cG .eql (.int k a) (.int k b)=some (.bool (a==b)):=by simp[cG]
theorem Ez (k:IntKind)(a b:Int):cG .neq (.int k a) (.int k b)=some (.bool (a != b)):=by simp[cG]
theorem EA (k:IntKind)(a b:Int):cG .lss (.int k a) (.int k b)=some (.bool (a<b)):=by simp[cG]
theorem EB (k:IntKind)(a b:Int):cG .leq (.int k a) (.int k b)=some (.bool (a≤b)):=by simp[cG]
theorem EC (k:IntKind)(a b:Int):cG .gtr (.int k a) (.int k b)=some (.bool (b<a)):=by simp[cG]
theorem ED (k:IntKind)(a b:Int):cG .geq (.int k a) (.int k b)=some (.bool (b≤a)):=by simp[cG]
theorem EE (a b:ByteArray):cG .eql (.str a) (.str b)=some (.bool (decide (a=b))):=by simp[cG,fU]
theorem EF (a b:ByteArray):cG .neq (.str a) (.str b)=some (.bool (!decide (a=b))):=by simp[cG,fU]
theorem EG (a b:ByteArray):cG .lss (.str a) (.str b)=some (.bool (strLt a b)):=by rfl
theorem EH (a b:ByteArray):cG .leq (.str a) (.str b)=some (.bool (!strLt b a)):=by have:=not_le b a;simp only[cG,Option.some.injEq,T.bool.injEq];rw[←this];simp
theorem EI (a b:ByteArray):cG .gtr (.str a) (.str b)=some (.bool (strLt b a)):=by have:=not_le b a;simp only[cG,Option.some.injEq,T.bool.injEq];exact this
theorem EJ (a b:ByteArray):cG .geq (.str a) (.str b)=some (.bool (!strLt a b)):=by rfl
theorem EK (a b:ByteArray):cG .add (.str a) (.str b)=if a.size+b.size≤9223372036854775807 then some (.str (a++b))else none:=rfl
theorem EL (a b:Nat):decide ((a:Int)<(no_index (OfNat.ofNat b)))=decide (a<OfNat.ofNat b):=U8 a b
theorem EM (a b:Nat):decide ((no_index (OfNat.ofNat b):Int)<(a:Int))=decide (OfNat.ofNat b<a):=U8 b a
theorem EN (a b:Nat):decide ((a:Int)≤(no_index (OfNat.ofNat b)))=decide (a≤OfNat.ofNat b):=U9 a b
theorem EO (a b:Nat):decide ((no_index (OfNat.ofNat b):Int)≤(a:Int))=decide (OfNat.ofNat b≤a):=U9 b a
theorem EP (a b:Nat):((a:Int)==(no_index (OfNat.ofNat b)))=decide (a=OfNat.ofNat b):=Q2 a b
theorem ER (a b:Nat):((a:Int) != (no_index (OfNat.ofNat b)))=!decide (a=OfNat.ofNat b):=WA a b
set_option linter.defProp false in
theorem S1:type_of% (And.intro (@QX)<|And.intro (@ak.eq_37)<|And.intro (@ak.eq_38)<|And.intro (@ak.eq_43)<|And.intro (@ak.eq_44)<|And.intro (@ak.eq_45)<|And.intro (@Q3)<|And.intro (@Q4)<|And.intro (@Q5)<|And.intro (@gg.eq_1)<|And.intro (@gg.eq_2)<|And.intro (@Ek)<|And.intro (@El)<|And.intro (@Lq)<|And.intro (@Lr)<|And.intro (@Ls)<|And.intro (@DK)<|And.intro (@List.nil_append.{0})<|And.intro (@List.append_nil.{0})<|And.intro (@List.cons_append.{0})<|And.intro (@Eh)<|And.intro (@Ei)<|And.intro (@zV)<|And.intro (@Lo)<|And.intro (@Ej)<|And.intro (@uD)<|And.intro (@zW)<|And.intro (@zX)<|And.intro (@Lp)<|And.intro (@fe.eq_1)<|And.intro (@fe.eq_2)<|And.intro (@lV.eq_1)<|And.intro (@lV.eq_2)<|And.intro (@ja.eq_1)<|And.intro (@ja.eq_2)<|And.intro (@jb.eq_1)<|And.intro (@jb.eq_2)<|And.intro (@List.replicate_zero.{0})<|And.intro (@List.replicate_succ.{0})<|And.intro (@List.set_cons_zero.{0})<|And.intro (@List.set_cons_succ.{0})<|And.intro (@List.all_cons.{0})<|And.intro (@List.all_nil.{0})<|And.intro (@Bool.and_true)<|And.intro (@Bool.true_and)<|And.intro (@fo)<|And.intro (@zS)<|And.intro (@mB)<|And.intro (@zT)<|And.intro (@gW)<|And.intro (@zU)<|And.intro (@EL)<|And.intro (@EM)<|And.intro (@EN)<|And.intro (@EO)<|And.intro (@EP)<|And.intro (@ER)<|And.intro (@K5)<|And.intro (@b_b)<|And.intro (@b_g)<|And.intro (@b_c)<|And.intro (@QW)<|And.intro (@DL)<|And.intro (@K6)<|And.intro (@K7)<|And.intro (@DM)<|And.intro (@DN)<|And.intro (@DP)<|And.intro (@K8)<|And.intro (@zL)<|And.intro (@fy)<|And.intro (@DQ)<|And.intro (@pV)<|And.intro (@DR)<|And.intro (@K9)<|And.intro (@DS)<|And.intro (@zM)<|And.intro (@cN)<|And.intro (@DT)<|And.intro (@DU)<|And.intro (@dG)<|And.intro (@DV)<|And.intro (@DW)<|And.intro (@La)<|And.intro (@Lb)<|And.intro (@Ld)<|And.intro (@Bool.false_eq_true)<|And.intro (@DX)<|And.intro (@DY)<|And.intro (@Lf)<|And.intro (@Li)<|And.intro (@Lg)<|And.intro (@Lh)<|And.intro (@wI)<|And.intro (@th)<|And.intro (@List.length_cons.{0})<|And.intro (@List.length_nil.{0})<|And.intro (@List.drop_succ_cons.{0})<|And.intro (@List.drop_zero.{0})<|And.intro (@List.take_succ_cons.{0})<|And.intro (@List.take_zero.{0})<|And.intro (@tp)<|And.intro (@tq)<|And.intro (@tt)<|And.intro (@qS)<|And.intro (@wY)<|And.intro (@tu)<|And.intro (@tv)<|And.intro (@tw)<|And.intro (@qT)<|And.intro (@qU)<|And.intro (@vF.eq_1)<|And.intro (@vF.eq_2)<|And.intro (@Nat.zero_add)<|And.intro (@QT)<|And.intro (@QU)<|And.intro (@uy.eq_1)<|And.intro (@uy.eq_2)<|And.intro (@DG)<|And.intro (@DH)<|And.intro (@DI)<|And.intro (@zK)<|And.intro (@zO)<|And.intro (@zP)<|And.intro (@zQ)<|And.intro (@zR)<|And.intro (@true_and)<|And.intro (@and_true)<|And.intro (@Option.map_some.{0,0})<|And.intro (@Option.bind_some.{0,0})<|And.intro (@Em)<|And.intro (@jc.eq_1)<|And.intro (@jc.eq_2)<|And.intro (@jc.eq_3)<|And.intro (@jc.eq_4)<|And.intro (@jc.eq_5)<|And.intro (@aa)<|And.intro (@Q0)<|And.intro (@Q1)<|And.intro (@yo.eq_1)<|And.intro (@yo.eq_2)<|And.intro (@pt.eq_1)<|And.intro (@rT.eq_1)<|And.intro (@rT.eq_2)<|And.intro (@xM.eq_1)<|And.intro (@xM.eq_2)<|And.intro (@Q7)<|And.intro (@Q8)<|And.intro (@Q9)<|And.intro (@U8)<|And.intro (@U9)<|And.intro (@Q2)<|And.intro (@WA)<|And.intro (@List.map_cons.{0,0})<|And.intro (@List.map_nil.{0,0})<|And.intro (@decide_true)<|And.intro (@decide_false)<|And.intro (@fU)<|And.intro (@Bool.not_true)<|And.intro (@Bool.not_false)<|And.intro (@beq_self_eq_true.{0})<|And.intro (@bne_self_eq_false.{0})<|And.intro (@List.getElem?_cons_zero.{0})<|And.intro (@List.getElem?_cons_succ.{0})<|And.intro (@List.getElem?_nil.{0})<|And.intro (@List.length_map.{0,0})<|And.intro (@zN)<|And.intro (@T.bool.injEq)<|And.intro (@T.int.injEq)<|And.intro (@T.str.injEq)<|And.intro (@T.bN.injEq)<|And.intro (@ak.eq_1)<|And.intro (@ak.eq_2)<|And.intro (@ak.eq_3)<|And.intro (@ak.eq_4)<|And.intro (@ak.eq_5)<|And.intro (@ak.eq_6)<|And.intro (@ak.eq_7)<|And.intro (@ak.eq_8)<|And.intro (@ak.eq_9)<|And.intro (@ak.eq_10)<|And.intro (@ak.eq_11)<|And.intro (@ak.eq_12)<|And.intro (@ak.eq_13)<|And.intro (@ak.eq_14)<|And.intro (@ak.eq_15)<|And.intro (@ak.eq_16)<|And.intro (@ak.eq_17)<|And.intro (@ak.eq_18)<|And.intro (@ak.eq_19)<|And.intro (@ak.eq_20)<|And.intro (@ak.eq_21)<|And.intro (@ak.eq_22)<|And.intro (@ak.eq_23)<|And.intro (@ak.eq_24)<|And.intro (@ak.eq_25)<|And.intro (@ak.eq_26)<|And.intro (@D8)<|And.intro (@wR)<|And.intro (@Ea)<|And.intro (@wT)<|And.intro (@Eb)<|And.intro (@Ec)<|And.intro (@Ed)<|And.intro (@wU)<|And.intro (@Ee)<|And.intro (@Ef)<|And.intro (@Eg)<|And.intro (@nv)<|And.intro (@ak.eq_30)<|And.intro (@ak.eq_31)<|And.intro (@ak.eq_32)<|And.intro (@ak.eq_33)<|And.intro (@ak.eq_34)<|And.intro (@ak.eq_35)<|And.intro (@ak.eq_36)<|And.intro (@D5)<|And.intro (@D6)<|And.intro (@wO)<|And.intro (@fp)<|And.intro (@kO)<|And.intro (@wV)<|And.intro (@mC)<|And.intro (@qR)<|And.intro (@wW)<|And.intro (@wX)<|And.intro (@tj)<|And.intro (@tn)<|And.intro (@En)<|And.intro (@Eo)<|And.intro (@Ep)<|And.intro (@Er)<|And.intro (@Es)<|And.intro (@Et)<|And.intro (@Eu)<|And.intro (@Ev)<|And.intro (@Lt)<|And.intro (@Ew)<|And.intro (@Ey)<|And.intro (@Ez)<|And.intro (@EA)<|And.intro (@EB)<|And.intro (@EC)<|And.intro (@ED)<|And.intro (@EE)<|And.intro (@EF)<|And.intro (@EG)<|And.intro (@EH)<|And.intro (@EI)<|And.intro (@EJ)<|(@EK)):=And.intro (@QX)<|And.intro (@ak.eq_37)<|And.intro (@ak.eq_38)<|And.intro (@ak.eq_43)<|And.intro (@ak.eq_44)<|And.intro (@ak.eq_45)<|And.intro (@Q3)<|And.intro (@Q4)<|And.intro (@Q5)<|And.intro (@gg.eq_1)<|And.intro (@gg.eq_2)<|And.intro (@Ek)<|And.intro (@El)<|And.intro (@Lq)<|And.intro (@Lr)<|And.intro (@Ls)<|And.intro (@DK)<|And.intro (@List.nil_append.{0})<|And.intro (@List.append_nil.{0})<|And.intro (@List.cons_append.{0})<|And.intro (@Eh)<|And.intro (@Ei)<|And.intro (@zV)<|And.intro (@Lo)<|And.intro (@Ej)<|And.intro (@uD)<|And.intro (@zW)<|And.intro (@zX)<|And.intro (@Lp)<|And.intro (@fe.eq_1)<|And.intro (@fe.eq_2)<|And.intro (@lV.eq_1)<|And.intro (@lV.eq_2)<|And.intro (@ja.eq_1)<|And.intro (@ja.eq_2)<|And.intro (@jb.eq_1)<|And.intro (@jb.eq_2)<|And.intro (@List.replicate_zero.{0})<|And.intro (@List.replicate_succ.{0})<|And.intro (@List.set_cons_zero.{0})<|And.intro (@List.set_cons_succ.{0})<|And.intro (@List.all_cons.{0})<|And.intro (@List.all_nil.{0})<|And.intro (@Bool.and_true)<|And.intro (@Bool.true_and)<|And.intro (@fo)<|And.intro (@zS)<|And.intro (@mB)<|And.intro (@zT)<|And.intro (@gW)<|And.intro (@zU)<|And.intro (@EL)<|And.intro (@EM)<|And.intro (@EN)<|And.intro (@EO)<|And.intro (@EP)<|And.intro (@ER)<|And.intro (@K5)<|And.intro (@b_b)<|And.intro (@b_g)<|And.intro (@b_c)<|And.intro (@QW)<|And.intro (@DL)<|And.intro (@K6)<|And.intro (@K7)<|And.intro (@DM)<|And.intro (@DN)<|And.intro (@DP)<|And.intro (@K8)<|And.intro (@zL)<|And.intro (@fy)<|And.intro (@DQ)<|And.intro (@pV)<|And.intro (@DR)<|And.intro (@K9)<|And.intro (@DS)<|And.intro (@zM)<|And.intro (@cN)<|And.intro (@DT)<|And.intro (@DU)<|And.intro (@dG)<|And.intro (@DV)<|And.intro (@DW)<|And.intro (@La)<|And.intro (@Lb)<|And.intro (@Ld)<|And.intro (@Bool.false_eq_true)<|And.intro (@DX)<|And.intro (@DY)<|And.intro (@Lf)<|And.intro (@Li)<|And.intro (@Lg)<|And.intro (@Lh)<|And.intro (@wI)<|And.intro (@th)<|And.intro (@List.length_cons.{0})<|And.intro (@List.length_nil.{0})<|And.intro (@List.drop_succ_cons.{0})<|And.intro (@List.drop_zero.{0})<|And.intro (@List.take_succ_cons.{0})<|And.intro (@List.take_zero.{0})<|And.intro (@tp)<|And.intro (@tq)<|And.intro (@tt)<|And.intro (@qS)<|And.intro (@wY)<|And.intro (@tu)<|And.intro (@tv)<|And.intro (@tw)<|And.intro (@qT)<|And.intro (@qU)<|And.intro (@vF.eq_1)<|And.intro (@vF.eq_2)<|And.intro (@Nat.zero_add)<|And.intro (@QT)<|And.intro (@QU)<|And.intro (@uy.eq_1)<|And.intro (@uy.eq_2)<|And.intro (@DG)<|And.intro (@DH)<|And.intro (@DI)<|And.intro (@zK)<|And.intro (@zO)<|And.intro (@zP)<|And.intro (@zQ)<|And.intro (@zR)<|And.intro (@true_and)<|And.intro (@and_true)<|And.intro (@Option.map_some.{0,0})<|And.intro (@Option.bind_some.{0,0})<|And.intro (@Em)<|And.intro (@jc.eq_1)<|And.intro (@jc.eq_2)<|And.intro (@jc.eq_3)<|And.intro (@jc.eq_4)<|And.intro (@jc.eq_5)<|And.intro (@aa)<|And.intro (@Q0)<|And.intro (@Q1)<|And.intro (@yo.eq_1)<|And.intro (@yo.eq_2)<|And.intro (@pt.eq_1)<|And.intro (@rT.eq_1)<|And.intro (@rT.eq_2)<|And.intro (@xM.eq_1)<|And.intro (@xM.eq_2)<|And.intro (@Q7)<|And.intro (@Q8)<|And.intro (@Q9)<|And.intro (@U8)<|And.intro (@U9)<|And.intro (@Q2)<|And.intro (@WA)<|And.intro (@List.map_cons.{0,0})<|And.intro (@List.map_nil.{0,0})<|And.intro (@decide_true)<|And.intro (@decide_false)<|And.intro (@fU)<|And.intro (@Bool.not_true)<|And.intro (@Bool.not_false)<|And.intro (@beq_self_eq_true.{0})<|And.intro (@bne_self_eq_false.{0})<|And.intro (@List.getElem?_cons_zero.{0})<|And.intro (@List.getElem?_cons_succ.{0})<|And.intro (@List.getElem?_nil.{0})<|And.intro (@List.length_map.{0,0})<|And.intro (@zN)<|And.intro (@T.bool.injEq)<|And.intro (@T.int.injEq)<|And.intro (@T.str.injEq)<|And.intro (@T.bN.injEq)<|And.intro (@ak.eq_1)<|And.intro (@ak.eq_2)<|And.intro (@ak.eq_3)<|And.intro (@ak.eq_4)<|And.intro (@ak.eq_5)<|And.intro (@ak.eq_6)<|And.intro (@ak.eq_7)<|And.intro (@ak.eq_8)<|And.intro (@ak.eq_9)<|And.intro (@ak.eq_10)<|And.intro (@ak.eq_11)<|And.intro (@ak.eq_12)<|And.intro (@ak.eq_13)<|And.intro (@ak.eq_14)<|And.intro (@ak.eq_15)<|And.intro (@ak.eq_16)<|And.intro (@ak.eq_17)<|And.intro (@ak.eq_18)<|And.intro (@ak.eq_19)<|And.intro (@ak.eq_20)<|And.intro (@ak.eq_21)<|And.intro (@ak.eq_22)<|And.intro (@ak.eq_23)<|And.intro (@ak.eq_24)<|And.intro (@ak.eq_25)<|And.intro (@ak.eq_26)<|And.intro (@D8)<|And.intro (@wR)<|And.intro (@Ea)<|And.intro (@wT)<|And.intro (@Eb)<|And.intro (@Ec)<|And.intro (@Ed)<|And.intro (@wU)<|And.intro (@Ee)<|And.intro (@Ef)<|And.intro (@Eg)<|And.intro (@nv)<|And.intro (@ak.eq_30)<|And.intro (@ak.eq_31)<|And.intro (@ak.eq_32)<|And.intro (@ak.eq_33)<|And.intro (@ak.eq_34)<|And.intro (@ak.eq_35)<|And.intro (@ak.eq_36)<|And.intro (@D5)<|And.intro (@D6)<|And.intro (@wO)<|And.intro (@fp)<|And.intro (@kO)<|And.intro (@wV)<|And.intro (@mC)<|And.intro (@qR)<|And.intro (@wW)<|And.intro (@wX)<|And.intro (@tj)<|And.intro (@tn)<|And.intro (@En)<|And.intro (@Eo)<|And.intro (@Ep)<|And.intro (@Er)<|And.intro (@Es)<|And.intro (@Et)<|And.intro (@Eu)<|And.intro (@Ev)<|And.intro (@Lt)<|And.intro (@Ew)<|And.intro (@Ey)<|And.intro (@Ez)<|And.intro (@EA)<|And.intro (@EB)<|And.intro (@EC)<|And.intro (@ED)<|And.intro (@EE)<|And.intro (@EF)<|And.intro (@EG)<|And.intro (@EH)<|And.intro (@EI)<|And.intro (@EJ)<|(@EK)
theorem S2:type_of% (And.intro (@not_false_eq_true)<|And.intro (@ne_eq.{1})<|And.intro (@Nat.lt_succ_self)<|And.intro (@aX)<|And.intro (@aV)<|And.intro (@bT)<|And.intro (@bh)<|And.intro (@uA)<|And.intro (@Lk)<|And.intro (@Ll)<|And.intro (@Lm)<|And.intro (@Ln)<|And.intro (@List.nil_append.{0})<|And.intro (@List.append_nil.{0})<|And.intro (@List.cons_append.{0}) (@List.drop_nil.{0})):=And.intro (@not_false_eq_true)<|And.intro (@ne_eq.{1})<|And.intro (@Nat.lt_succ_self)<|And.intro (@aX)<|And.intro (@aV)<|And.intro (@bT)<|And.intro (@bh)<|And.intro (@uA)<|And.intro (@Lk)<|And.intro (@Ll)<|And.intro (@Lm)<|And.intro (@Ln)<|And.intro (@List.nil_append.{0})<|And.intro (@List.append_nil.{0})<|And.intro (@List.cons_append.{0}) (@List.drop_nil.{0})
theorem Lu (H:af)(x:B):(H++[x]).length=H.length+1:=by simp
theorem Ra {b n:Nat}(h:b<n):(b<n+1)=True:=by simp;omega
theorem S3:type_of% (And.intro (@Lu)<|And.intro (@Ra) (@Nat.add_assoc)):=And.intro (@Lu)<|And.intro (@Ra) (@Nat.add_assoc)
section
variable {α:Type} {enc:α→List T} {n:Nat}
def aJ (enc:α→List T)(xs:List α):List T:=xs.flatMap enc
theorem cY (hn:∀x,(enc x).length=n):∀xs:List α,(aJ enc xs).length=xs.length*n
 | []=>by simp[aJ]
 | x :: xs=>by
  have:=cY hn xs
  simp only[aJ,List.flatMap_cons,List.length_append,hn,List.length_cons]at this ⊢
  rw[this,Nat.add_mul];omega
theorem kQ (hn:∀x,(enc x).length=n):∀(xs:List α) (i:Nat),(aJ enc xs).drop (i*n)=aJ enc (xs.drop i)
 | xs,0=>by simp
 | [],i+1=>by simp[aJ]
 | x :: xs,i+1=>by
  have:=kQ hn xs i
  simp only[aJ,List.flatMap_cons,List.drop_succ_cons]at this ⊢
  rw[show(i+1)*n=(enc x).length+i*n by rw[hn,Nat.add_mul];omega,List.drop_append,List.drop_eq_nil_of_le (by omega)]
  simp[this]
theorem jj (hn:∀x,(enc x).length=n):∀(xs:List α) (i:Nat),(aJ enc xs).take (i*n)=aJ enc (xs.take i)
 | xs,0=>by simp[aJ]
 | [],i+1=>by simp[aJ]
 | x :: xs,i+1=>by
  have:=jj hn xs i
  simp only[aJ,List.flatMap_cons,List.take_succ_cons]at this ⊢
  rw[show(i+1)*n=(enc x).length+i*n by rw[hn,Nat.add_mul];omega,List.take_append,List.take_of_length_le (by omega)]
  simp[this]
theorem iD (hn:∀x,(enc x).length=n){xs:List α}{i:Nat}{x:α}(hx:xs[i]?=some x)(off m:Nat)(h:off+m≤n):qP m (i*n+off) (some (.cells (aJ enc xs)))=some (((enc x).drop off).take m):=by
 have hi:=(List.getElem?_eq_some_iff.1 hx).1
 have h1:i*n+n≤xs.length*n:=by rw[←Nat.succ_mul];exact Nat.mul_le_mul_right n hi
 have e:(aJ enc xs).drop (i*n)=enc x++aJ enc (xs.drop (i+1)):=by
  rw[kQ hn,List.drop_eq_getElem_cons hi]
  have:xs[i]=x:=(List.getElem?_eq_some_iff.1 hx).2
  rw[this];rfl
 rw[mB,if_pos (by rw[cY hn];omega),←List.drop_drop,e,List.drop_append,List.take_append,hn]
 rw[show m-((enc x).drop off).length=0 by rw[List.length_drop,hn];omega]
 simp
theorem jI (hn:∀x,(enc x).length=n){xs:List α}{i:Nat}{x y:α}(hx:xs[i]?=some x)(H:af)(b:Nat)(vs:List T)(off:Nat)(h:off+vs.length≤n)(hy:enc y=(enc x).take off++vs++(enc x).drop (off+vs.length)) :
  oJ H b vs (i*n+off) (some (.cells (aJ enc xs)))=some (H.set b (.cells (aJ enc (xs.set i y)))):=by
 have hi:=(List.getElem?_eq_some_iff.1 hx).1
 have hxi:xs[i]=x:=(List.getElem?_eq_some_iff.1 hx).2
 have h1:i*n+n≤xs.length*n:=by rw[←Nat.succ_mul];exact Nat.mul_le_mul_right n hi
 rw[gW,if_pos (by rw[cY hn];omega)]
 have e:(aJ enc xs).drop (i*n)=enc x++aJ enc (xs.drop (i+1)):=by
  rw[kQ hn,List.drop_eq_getElem_cons hi,hxi];rfl
 have t:(aJ enc xs).take (i*n+off)=aJ enc (xs.take i)++(enc x).take off:=by
  rw[List.take_add,jj hn,e,List.take_append,hn,show off-n=0 by omega];simp
 have d:(aJ enc xs).drop (i*n+off+vs.length)=(enc x).drop (off+vs.length)++aJ enc (xs.drop (i+1)):=by
  rw[Nat.add_assoc,←List.drop_drop,e,List.drop_append,hn,show off+vs.length-n=0 by omega];simp
 rw[t,d]
 have:xs.set i y=xs.take i++y :: xs.drop (i+1):=by rw[List.set_eq_take_append_cons_drop,if_pos hi]
 rw[this]
 simp only[aJ,List.flatMap_append,List.flatMap_cons,hy,List.append_assoc]
theorem Jm (k:Nat)(z:α):(List.replicate k (enc z)).flatten=aJ enc (List.replicate k z):=by
 induction k with
 | zero=>rfl
 | succ k ih=>simp only[List.replicate_succ,List.flatten_cons,ih,aJ,List.flatMap_cons]
end
theorem jk (n i b off len:Nat):eI n i (.ay b off len n)=if i<len then if n=0 then none else some (.ptr b (off+i*n))else none:=by
 simp only[eI,true_and,ne_eq]
 by_cases h:i<len<;>by_cases h':n=0<;>simp[h,h']
def eU (n:Nat):List T:=[.int .u64 n]
def lC (n0:Nat)(H:af)(k:SK):Prop:=k=.nil∨k=.full∨∃t e,k=.own t e∧n0≤t∧H[t]?=some (.tok e)
structure wZ (n0:Nat)(H:af)(k:SK)(H':af):Prop where
 len:H.length≤H'.length
 get:∀b x,H[b]?=some x→(∀e,k≠.own b e)→H'[b]?=some x
 ext:∀H0:af,H0.length≤n0→Ext H0 H→Ext H0 H'
theorem wZ.cells {n0:Nat}{H H':af}{k:SK}(h:wZ n0 H k H')(ha:lC n0 H k){b:Nat}{x:B}(hx:H[b]?=some x)(ht:∀e,x≠.tok e):H'[b]?=some x:=h.get b x hx fun e he=>by
 rcases ha with h|h|⟨t,e',h,_,h'⟩
 ·rw[he]at h;cases h
 ·rw[he]at h;cases h
 ·rw[he]at h;cases h;rw[hx]at h';cases h';exact ht _ rfl
theorem kR {n0:Nat}{H:af}{k:SK}{bytes:Nat}(es new:List (List T))(hk:lC n0 H k)(jf:n0≤H.length)(hZ:new≠[])(hr:da (es.length+new.length) bytes=true) :
  ∃k' H',gK H bytes k es new=some (.sl k' (es++new.map (·.map T.erase)),H')∧lC n0 H' k'∧wZ n0 H k H':=by
 unfold gK
 cases new with
 | nil=>exact absurd rfl hZ
 | cons c new =>
  simp only[hr,if_true]
  rcases hk with rfl|rfl|⟨t,e,rfl,ht,hg⟩
  ·exact⟨_,_,rfl,.inr (.inr ⟨_,_,rfl,jf,aX rfl⟩),⟨by simp,fun b x hx _=>by rw[aV (aW hx)];exact hx,fun H0 _ h=>h.app _⟩⟩
  ·exact⟨_,_,rfl,.inr (.inr ⟨_,_,rfl,jf,aX rfl⟩),⟨by simp,fun b x hx _=>by rw[aV (aW hx)];exact hx,fun H0 _ h=>h.app _⟩⟩
  ·simp only[hg,if_true]
   refine⟨_,_,rfl,.inr (.inr ⟨_,_,rfl,ht,bT (aW hg)⟩),⟨by simp,fun b x hx bF=>?_,fun H0 h0 h=>h.set (Nat.le_trans h0 ht) _⟩⟩
   have:t≠b:=fun h=>bF e (by rw[h])
   rw[bh this];exact hx
theorem iE (n0:Nat)(H:af):lC n0 H .nil:=.inl rfl
theorem lC.ext {n0:Nat}{H H':af}{k:SK}(h:lC n0 H k)(hx:Ext H H'):lC n0 H' k:=by
 rcases h with h|h|⟨t,e,h,h1,h2⟩
 ·exact .inl h
 ·exact .inr (.inl h)
 ·exact .inr (.inr ⟨t,e,h,h1,hx.get h2⟩)
theorem lC.set {n0:Nat}{H:af}{k:SK}(h:lC n0 H k){c:Nat}{x:B}(hx:H[c]?=some x)(ht:∀e,x≠.tok e)(y:B):lC n0 (H.set c y) k:=by
 rcases h with h|h|⟨t,e,h,h1,h2⟩
 ·exact .inl h
 ·exact .inr (.inl h)
 ·refine .inr (.inr ⟨t,e,h,h1,?_⟩)
  have:c≠t:=fun he=>by subst he;rw[hx]at h2;cases h2;exact ht _ rfl
  rw[bh this];exact h2
theorem ES {n b:Nat}{res:List Rs}{Q:Out→af→Prop}{R:ar}{H:af}(h:R n=.bN [.ptr b 0])(hd:H[b]?=some .zf)
  (hq:match pt R (H.set b .dead) res with|some v=>Q (.val v) (H.set b .dead)|none=>False):QY n res Q (.ex .ret R) H :=
 ⟨[b],by rw[h];rfl,by simp,by simp[hd],hq⟩
theorem Lv (b:Nat):mY (.bN []) b=.bN [.ptr b 0]:=rfl
theorem kS {n m:Nat}(h:(n+n/4+512)*m≤281474976710656):da n m=true:=by simp[da,h]
theorem all_map {α:Type}{enc:α→List T}{n:Nat}(hn:∀x,(enc x).length=n)(l:List α):(l.map enc).all (fun c=>c.length==n)=true:=by simp[hn]
def pj {α:Type}(enc:α→List T)(n n0:Nat)(H:af)(t:T)(l:List α):Prop :=
 (l=[]∧t=.sl .nil [])∨∃b,t=.ay b 0 l.length n∧H[b]?=some (.cells (aJ enc l))∧n0≤b
theorem nw {α:Type}(enc:α→List T)(n n0:Nat)(H:af):pj enc n n0 H (.sl .nil []) []:=.inl ⟨rfl,rfl⟩
theorem pj.ext {α:Type}{enc:α→List T}{n n0:Nat}{H H':af}{t:T}{l:List α}(h:pj enc n n0 H t l)(hx:Ext H H'):pj enc n n0 H' t l:=by
 rcases h with h|⟨b,h1,h2,h3⟩
 ·exact .inl h
 ·exact .inr ⟨b,h1,hx.get h2,h3⟩
theorem pj.len {α:Type}{enc:α→List T}{n n0:Nat}{H:af}{t:T}{l:List α}(h:pj enc n n0 H t l):jc H .sl t=some l.length:=by
 rcases h with⟨rfl,rfl⟩|⟨b,rfl,_,_⟩<;>rfl
structure Rb (n0:Nat)(H:af)(t:T)(H':af):Prop where
 len:H.length≤H'.length
 get:∀b x,H[b]?=some x→(∀off len n,t≠.ay b off len n)→H'[b]?=some x
 ext:∀H0:af,H0.length≤n0→Ext H0 H→Ext H0 H'
theorem pW {α:Type}{enc:α→List T}{n n0:Nat}(hn:∀x,(enc x).length=n){H:af}{t:T}{l:List α}{bytes:Nat}(new:List α)(h:pj enc n n0 H t l)(jf:n0≤H.length)(hZ:new≠[])(hr:da (l.length+new.length) bytes=true) :
  ∃t' H',mX H n bytes t (new.map enc)=some (t',H')∧pj enc n n0 H' t' (l++new)∧Rb n0 H t H':=by
 have pO:(new.map enc).flatten=aJ enc new:=by simp[aJ,List.flatMap]
 have qM:∀l:List α,aJ enc l++aJ enc new=aJ enc (l++new):=fun l=>by simp[aJ]
 unfold mX
 cases new with
 | nil=>exact absurd rfl hZ
 | cons c new =>
  rcases h with⟨rfl,rfl⟩|⟨b,rfl,hb,Hc⟩
  ·simp only[List.map_cons,List.length_cons,List.length_nil,List.length_map,Nat.zero_add]at hr pO ⊢
   simp only[hr,and_true,if_true]
   refine⟨_,_,rfl,.inr ⟨H.length,by simp,?_,jf⟩,⟨by simp,fun b x hx _=>by rw[aV (aW hx)];exact hx,fun H0 _ h=>h.app _⟩⟩
   rw[aX rfl,pO];rfl
  ·have hc:l.length*n=(aJ enc l).length:=(cY hn l).symm
   simp only[List.map_cons,List.length_cons,List.length_map]at hr pO ⊢
   simp only[hb,hc,hr,and_self,if_true]
   refine⟨_,_,rfl,.inr ⟨H.length,by simp,?_,jf⟩,⟨by simp,fun b' x hx bF=>?_,fun H0 h0 h=>(h.set (Nat.le_trans h0 Hc) _).app _⟩⟩
   ·rw[aX (by simp),pO,qM]
   ·have Nc:b≠b':=fun e=>bF 0 l.length n (by rw[e])
    rw[aV (by rw[List.length_set];exact aW hx),bh Nc];exact hx
theorem uE {α:Type}{enc:α→List T}{n:Nat}(hn:∀x,(enc x).length=n)(l:List α):rU (aJ enc l) 0 l.length n=l.map enc:=by
 unfold rU
 refine List.ext_getElem? fun i=>?_
 by_cases hi:i<l.length
 ·have:=iD hn (List.getElem?_eq_getElem hi) 0 n (by omega)
  rw[mB]at this
  split at this
  ·simp only[Option.some.injEq,Nat.add_zero,List.drop_zero]at this
   simp only[List.getElem?_map,List.getElem?_range hi,Option.map_some,Nat.zero_add,this,List.getElem?_eq_getElem hi]
   rw[List.take_of_length_le (by rw[hn];omega)]
  ·cases this
 ·rw[List.getElem?_eq_none (by simp;omega),List.getElem?_eq_none (by simp;omega)]
theorem W.vG {α:Type}{enc:α→List T}{n:Nat}(hn:∀x,(enc x).length=n){E:Env}{f:Nat}{az:List T}{H:af}{l:List α}{Q:Out→af→Prop}
  (h:W E (.call f az) H (fun o H'=>∃b,o=.val (.ay b 0 l.length n)∧H'[b]?=some (.cells (aJ enc l))∧Q (.val (.sl .arg (l.map enc))) (H'.set b .dead))):W E (.call f az) H Q:=by
 refine .pJ _ h fun o H' ⟨b,ho,hb,hq⟩=>⟨_,b,_,ho,rfl,hb,?_⟩
 have hc:0+l.length*n≤(aJ enc l).length:=by rw[cY hn];omega
 simp only[xN,Go.Rmp.vG,hc,and_self,if_true,uE hn]
 exact hq
end Go.Rmp
end
