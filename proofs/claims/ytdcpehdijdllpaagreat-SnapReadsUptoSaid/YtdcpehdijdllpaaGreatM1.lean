/- Part of a proof of a law of this seat: the machine of plain values, its simulation, and the contracts of the functions that the law reaches. Conditions: none beyond the given row. -/
import Derived.Test.YtdcpehdijdllpaaGreatM0
import Derived.RangeFuncRecord
import Derived.RangeFuncIn
import Derived.OpenShut
import Derived.RowKit3
import Derived.ChangeSame
import Derived.ReadAgain
import Derived.ChangeCalls
import Derived.Deep.Frames
import Derived.Laws.Strings
open Int renaming reduceLT → q6, reduceLE → q7, reduceBEq → q8, reduceBNe → q9, reduceEq → y1
open Nat renaming reduceAdd → y2, reduceLeDiff → y3, reduceLT → y4, reduceEqDiff → y5
set_option linter.unusedSimpArgs false
set_option linter.unusedVariables false
set_option linter.unnecessarySimpa false
set_option maxHeartbeats 4000000
section
namespace Go.Rmp
section
variable {P:Program} {w0 w:World} {g:Ctx} {H H':af} {R:ax} {ρ:Operand→Value} {t:T}
theorem gz {ty:TypeId}{z:List T}(h:zeroOf P ty=some z):∃i zv,P.info? ty=some i∧i.zero=some zv∧fw zv.cells.toList=some z:=by
 unfold zeroOf at h
 cases h1:P.info? ty with
 | none=>simp[h1]at h
 | some i =>
  simp only[h1]at h
  cases h2:i.zero with
  | none=>simp[h2]at h
  | some zv=>simp only[h2]at h;exact⟨i,zv,rfl,h2,h⟩
theorem zL {jy:List TypeId}{rt:TypeId}{mu:Bool}{as:List X}{vs:List Value}{b:Bo}(hc:mO P mu jy as=some b)(h:SR w0 g H w)(hv:bL g w (as.map (X.ev R)) vs)(he:au R H b=some (t,H')) :
  cq P w0 g H w (Builtin.append_ jy.toArray rt vs.toArray) t H':=by
 unfold mO at hc
 split at hc
 ·rename_i sT xT x y
  cases vs with
  | nil=>have:=hv.1;simp at this
  | cons vx vs =>
   cases vs with
   | nil=>have:=hv.1;simp at this
   | cons vy vs =>
    cases vs with
    | cons _ _=>have:=hv.1;simp at this
    | nil =>
     have hx:VR g w (x.ev R) vx:=hv.head
     have hy:VR g w (y.ev R) vy:=hv.tail.head
     cases hs:P.underlying sT with
     | none=>simp[hs]at hc
     | some ds =>
      cases Kj:P.underlying xT with
      | none=>cases ds<;>simp[hs,Kj]at hc
      | some dx =>
       cases ds<;>simp only[hs,Kj]at hc<;>(try (cases hc;done))
       rename_i e
       cases hi:P.info? e with
       | none=>simp[hi]at hc
       | some ei =>
        simp only[hi]at hc
        cases hz:ei.zero with
        | none=>simp[hz]at hc
        | some zv =>
         simp only[hz]at hc
         split at hc
         ·rename_i cM
          simp only[Bool.and_eq_true,beq_iff_eq,bne_iff_ne]at cM
          simp at hc;subst hc
          have E:pz P sT xT e ei zv ei.size ei.bytes:=⟨hs,hi,⟨dx,Kj,fun k e=>by subst e;simp[EG]at cM⟩,rfl,hz,cM.1.2,rfl,cM.2⟩
          simp only[au]at he
          cases tI:bG H ei.size (y.ev R)with
          | none=>simp[tI]at he
          | some new =>
           simp only[tI]at he
           cases mu with
           | true =>
            simp only[if_true]at he
            exact Ew E h hx.xv hy tI he
           | false =>
            simp only[Bool.false_eq_true,if_false]at he
            generalize x.ev R=tx at hx he
            cases tx<;>(try simp only[reduceCtorEq]at he)
            split at he
            ·rename_i bD
             exact J8 E h hx hy bD tI he
            ·cases he
         ·cases hc
 ·cases hc
theorem Kx {jy:List TypeId}{rt:TypeId}{as:List X}{vs:List Value}{b:Bo}(hc:xK P jy as=some b)(h:SR w0 g H w)(hv:bL g w (as.map (X.ev R)) vs)(he:au R H b=some (t,H')) :
  cq P w0 g H w (Builtin.append_ jy.toArray rt vs.toArray) t H':=by
 unfold xK at hc
 split at hc
 ·rename_i sT xT x k
  cases vs with
  | nil=>have:=hv.1;simp at this
  | cons vx vs =>
   cases vs with
   | nil=>have:=hv.1;simp at this
   | cons vk vs =>
    cases vs with
    | cons _ _=>have:=hv.1;simp at this
    | nil =>
     have hx:VR g w (x.ev R) vx:=hv.head
     have hk:VR g w (k.ev R) vk:=hv.tail.head
     cases hs:P.underlying sT with
     | none=>simp[hs]at hc
     | some ds =>
      cases Kj:P.underlying xT with
      | none=>cases ds<;>simp[hs,Kj]at hc
      | some dx =>
       cases ds<;>cases dx<;>simp only[hs,Kj]at hc<;>(try (cases hc;done))
       rename_i e kn
       cases hi:P.info? e with
       | none=>simp[hi]at hc
       | some ei =>
        cases hz:zeroOf P e with
        | none=>simp[hi,hz]at hc
        | some z =>
         simp only[hi,hz]at hc
         split at hc
         ·rename_i cM
          simp only[bne_iff_ne,ne_eq]at cM
          simp only[Option.some.injEq]at hc;subst hc
          obtain⟨i,zv,h1,h2,h3⟩:=gz hz
          rw[hi]at h1;cases h1
          simp only[au,Option.bind_eq_some_iff]at he
          obtain⟨kk,bT,he⟩:=he
          generalize k.ev R=tk at hk bT
          cases hk<;>simp only[cB]at bT<;>(try (cases bT;done))
          rename_i kq m
          split at bT
          ·rename_i hm
           simp only[Option.some.injEq]at bT
           subst bT
           have:=Ki (rt:=rt) (kq:=kq) hs Kj hi h2 h3 cM h hx he
           rw[Int.toNat_of_nonneg hm]at this
           exact this
          ·cases bT
         ·cases hc
 ·cases hc
theorem Ky {f:FuncId}{n:Nat}{x y:X}{args:Array Operand}{ρ:Operand→Value}(xh:A6 P f=some n)(h:SR w0 g H w)(jq:bL g w ([x,y].map (X.ev R)) (args.toList.map ρ))(he:Co H n (x.ev R) (y.ev R)=some (t,H')) :
  Ku P w0 g H w (callFunc f (args.map ρ)) t H':=by
 unfold A6 at xh
 cases hf:P.funcs[f]? with
 | none=>simp[hf]at xh
 | some fn =>
  simp only[hf]at xh
  cases hp:fn.params[0]? with
  | none=>simp[hp]at xh
  | some tS =>
   simp only[hp]at xh
   cases ht:P.underlying tS with
   | none=>simp[ht]at xh
   | some d =>
    cases d<;>simp only[ht]at xh<;>(try (cases xh;done))
    rename_i e
    cases hi:P.info? e with
    | none=>simp[hi]at xh
    | some ei =>
     simp only[hi]at xh
     split at xh
     ·rename_i hc
      simp only[Option.some.injEq]at xh;subst xh
      simp only[Bool.and_eq_true,MK,Option.isNone_iff_eq_none,beq_iff_eq,bne_iff_ne,ne_eq]at hc
      obtain⟨⟨⟨⟨c1,c2⟩,c3⟩,c4⟩,⟨c5,c6⟩,c7⟩:=hc
      have TM:Extern.find fn=some (Extern.SlicesOverlaps.overlaps fn.params fn.resultTypes):=by
       have r1:Extern.allGenericRows.lookup "slices.overlaps"=none:=by kernel_rfl
       have r2:Extern.allTypedRows.lookup "slices.overlaps"=some Extern.SlicesOverlaps.overlaps:=by kernel_rfl
       unfold Extern.find
       simp only[c4,c5,c6,c7,r1,r2,Option.map_none,Option.map_some]
       rfl
      cases ha:args.toList.map ρ with
      | nil=>rw[ha]at jq;have:=jq.1;simp at this
      | cons vx vs =>
       cases vs with
       | nil=>rw[ha]at jq;have:=jq.1;simp at this
       | cons vy vs =>
        cases vs with
        | cons _ _=>rw[ha]at jq;have:=jq.1;simp at this
        | nil =>
         rw[ha]at jq
         have hx:VR g w (x.ev R) vx:=jq.head
         have hy:VR g w (y.ev R) vy:=jq.tail.head
         have oI:args.map ρ=#[vx,vy]:=by apply Array.ext';simp[ha]
         obtain⟨v,w',g',h1,h2,h3,h4,h5⟩:=Kk (results:=fn.resultTypes) hp ht hi h hx hy he
         refine⟨.value v,v,w',g',?_,.inl rfl,h2,h3,h4,h5⟩
         rw[oI,run_callFunc_extern hf (by simpa using c1) (by simp[c2]) c3 TM,h1]
         rfl
     ·cases xh
theorem xM {bi:Builtin}{jy:List TypeId}{rt:TypeId}{cs:Array Bool}{mu:Bool}{as:List X}{vs:List Value}{b:Bo}(hc:jY P mu bi jy as=some b)(h:SR w0 g H w)(hv:bL g w (as.map (X.ev R)) vs)(he:au R H b=some (t,H')) :
  Ku P w0 g H w (builtin bi jy.toArray rt cs vs.toArray) t H':=by
 have two:∀(x y:X),as=[x,y]→∃vx vy,vs=[vx,vy]∧VR g w (x.ev R) vx∧VR g w (y.ev R) vy:=by
  rintro x y rfl
  cases vs with
  | nil=>have:=hv.1;simp at this
  | cons vx vs =>
   cases vs with
   | nil=>have:=hv.1;simp at this
   | cons vy vs =>
    cases vs with
    | cons _ _=>have:=hv.1;simp at this
    | nil=>exact⟨vx,vy,rfl,hv.head,hv.tail.head⟩
 unfold jY at hc
 split at hc
 ·cases hz:xK P jy as with
  | some b'=>rw[hz]at hc;simp only[Option.some.injEq]at hc;subst hc;exact(Kx hz h hv he).oh
  | none=>rw[hz]at hc;exact(zL hc h hv he).oh
 ·-- cap
  rename_i ty x
  cases vs with
  | nil=>have:=hv.1;simp at this
  | cons vx vs =>
   cases vs with
   | cons _ _=>have:=hv.1;simp at this
   | nil =>
    have hx:VR g w (x.ev R) vx:=hv.head
    cases hu:P.underlying ty with
    | none=>simp[hu]at hc
    | some d =>
     cases d<;>simp only[hu]at hc<;>(try (cases hc;done))
     simp only[Option.some.injEq]at hc;subst hc
     simp only[au]at he
     generalize x.ev R=tx at hx he
     cases tx<;>simp only[reduceCtorEq,Option.some.injEq,Prod.mk.injEq]at he
     obtain⟨rfl,rfl⟩:=he
     exact(Ke hu h hx).oh
 ·-- copy
  rename_i dT sT x y
  obtain⟨vx,vy,rfl,hx,hy⟩:=two x y rfl
  cases hu:P.underlying dT with
  | none=>simp[hu]at hc
  | some d =>
   cases d<;>simp only[hu]at hc<;>(try (cases hc;done))
   rename_i e
   cases hi:P.info? e with
   | none=>simp[hi]at hc
   | some ei =>
    simp only[hi,Option.map_some,Option.some.injEq]at hc;subst hc
    simp only[au]at he
    exact(Kf hu hi h hx hy he).oh
 ·-- len
  rename_i ty x
  cases vs with
  | nil=>have:=hv.1;simp at this
  | cons vx vs =>
   cases vs with
   | cons _ _=>have:=hv.1;simp at this
   | nil =>
    have hx:VR g w (x.ev R) vx:=hv.head
    cases hu:P.underlying ty with
    | none=>simp[hu]at hc
    | some d =>
     have hl:∃k,Zd k d=true∧b=.len k x:=by
      cases d<;>simp[hu]at hc
      ·exact⟨.str,rfl,hc.symm⟩
      ·exact⟨.sl,rfl,hc.symm⟩
      ·exact⟨.map,rfl,hc.symm⟩
     obtain⟨k,hk,rfl⟩:=hl
     simp only[au,Option.map_eq_some_iff,Prod.mk.injEq]at he
     obtain⟨n,h1,rfl,rfl⟩:=he
     exact(JP hu hk h hx h1).oh
 ·-- clear
  rename_i ty x
  cases vs with
  | nil=>have:=hv.1;simp at this
  | cons vx vs =>
   cases vs with
   | cons _ _=>have:=hv.1;simp at this
   | nil =>
    have hx:VR g w (x.ev R) vx:=hv.head
    cases hu:P.underlying ty with
    | none=>simp[hu]at hc
    | some d =>
     cases d<;>simp only[hu]at hc<;>(try (cases hc;done))
     rename_i e
     cases hi:P.info? e with
     | none=>simp[hi]at hc
     | some ei =>
      cases hz:zeroOf P e with
      | none=>simp[hi,hz]at hc
      | some z =>
       simp only[hi,hz,Option.some.injEq]at hc;subst hc
       obtain⟨i,zv,k1,k2,k3⟩:=gz hz
       rw[hi]at k1;cases k1
       simp only[au]at he
       generalize x.ev R=tx at hx he
       cases tx<;>(try (simp only[reduceCtorEq]at he;done))
       rename_i bb off len n'
       simp only at he
       cases hb:H[bb]? with
       | none=>simp[hb]at he
       | some y =>
        cases y<;>simp only[hb]at he<;>(try (cases he;done))
        rename_i cs'
        split at he
        ·rename_i vG
         obtain⟨rfl,xI,hle⟩:=vG
         simp only[Option.some.injEq,Prod.mk.injEq]at he
         obtain⟨rfl,rfl⟩:=he
         exact(Kt hu hi k2 k3 h hx hb xI hle).oh
        ·cases he
 ·rename_i x y
  obtain⟨vx,vy,rfl,hx,hy⟩:=two x y rfl
  simp at hc;subst hc
  simp only[au]at he
  generalize x.ev R=tx at hx he
  generalize y.ev R=OH at hy he
  cases tx<;>cases OH<;>simp only[reduceCtorEq,Option.some.injEq,Prod.mk.injEq]at he
  obtain⟨rfl,rfl⟩:=he
  exact(Om h hx hy).oh
 ·rename_i x y
  obtain⟨vx,vy,rfl,hx,hy⟩:=two x y rfl
  simp at hc;subst hc
  simp only[au]at he
  generalize x.ev R=tx at hx he
  generalize y.ev R=OH at hy he
  cases tx<;>cases OH<;>simp only[reduceCtorEq,Option.some.injEq,Prod.mk.injEq]at he
  obtain⟨rfl,rfl⟩:=he
  exact(On h hx hy).oh
 ·-- delete
  rename_i ty xt m k
  obtain⟨vm,vk,rfl,hm,hk⟩:=two m k rfl
  cases hu:P.underlying ty with
  | none=>simp[hu]at hc
  | some d =>
   cases d<;>simp only[hu]at hc<;>(try (cases hc;done))
   rename_i key elem
   cases kG:vI P key with
   | none=>simp[kG]at hc
   | some kt =>
    simp only[kG]at hc
    split at hc
    ·rename_i qP
     simp at hc;subst hc
     simp only[au]at he
     generalize m.ev R=tm at hm he
     cases tm<;>(try simp only[reduceCtorEq]at he)
     rename_i bb
     split at he
     ·rename_i zD
      cases hb:H[bb]? with
      | none=>simp[hb]at he
      | some z =>
       cases z<;>simp only[hb]at he<;>(try (cases he;done))
       rename_i es
       cases hr:dz (k.ev R) es with
       | none=>simp[hr]at he
       | some r =>
        have:=J4 (rt:=rt) (xt:=xt) hu qP h hm hk zD hb hr
        cases r with
        | none=>simp only[hr,Option.some.injEq,Prod.mk.injEq]at he;obtain⟨rfl,rfl⟩:=he;exact this.oh
        | some i=>simp only[hr,Option.some.injEq,Prod.mk.injEq]at he;obtain⟨rfl,rfl⟩:=he;exact this.oh
     ·cases he
    ·cases hc
 ·cases hc
theorem A9 {ty:TypeId}{m k:X}{e:Nat}{kt:KT}{z:T}(h:zK P ty m k=some (e,kt,z)):∃key ei zv,P.underlying ty=some (.map key e)∧P.info? e=some ei∧ei.zero=some zv∧nJ zv=some z∧nK P key kt=true:=by
 unfold zK at h
 cases hu:P.underlying ty with
 | none=>simp[hu]at h
 | some d =>
  cases d<;>simp only[hu]at h<;>(try (cases h;done))
  rename_i key e'
  cases h1:vI P key with
  | none=>simp[h1]at h
  | some kt' =>
   cases h2:P.info? e' with
   | none=>simp[h1,h2]at h
   | some ei =>
    simp only[h1,h2]at h
    cases h3:ei.zero with
    | none=>simp[h3]at h
    | some zv =>
     simp only[h3]at h
     cases h4:nJ zv with
     | none=>simp[h4]at h
     | some z' =>
      simp only[h4]at h
      split at h
      ·rename_i qP
       simp at h
       obtain⟨rfl,rfl,rfl⟩:=h
       exact⟨key,ei,zv,rfl,h2,h3,h4,qP⟩
      ·cases h
theorem Ba {ty:TypeId}{m k v:X}{vm vk vv:Value}{e:Nat}{kt:KT}{z:T}(hc:zK P ty m k=some (e,kt,z))(h:SR w0 g H w)(hm:VR g w (m.ev R) vm)(hk:VR g w (k.ev R) vk)(hv:VR g w (v.ev R) vv)(he:au R H (.AQ kt m k v)=some (t,H')) :
  Ku P w0 g H w (do Instr.mapUpdate ty vm vk vv;pure Next.skip) t H':=by
 obtain⟨key,ei,zv,hu,hi,hz,qR,qP⟩:=A9 hc
 simp only[au]at he
 generalize m.ev R=tm at hm he
 cases tm<;>(try simp only[reduceCtorEq]at he)
 rename_i bb
 split at he
 ·rename_i zD
  cases hb:H[bb]? with
  | none=>simp[hb]at he
  | some y =>
   cases y<;>simp only[hb]at he<;>(try (cases he;done))
   rename_i es
   cases hr:dz (k.ev R) es with
   | none=>simp[hr]at he
   | some r =>
    obtain⟨w',g',h1,h2,h3,h4⟩:=J3 hu qP h hm hk hv zD hb hr
    cases r with
    | none=>simp only[hr,Option.some.injEq,Prod.mk.injEq]at he;obtain⟨rfl,rfl⟩:=he;exact⟨.skip,undef,w',g',by simp[h1],.inr ⟨rfl,rfl⟩,h2,h3,iU,h4⟩
    | some i=>simp only[hr,Option.some.injEq,Prod.mk.injEq]at he;obtain⟨rfl,rfl⟩:=he;exact⟨.skip,undef,w',g',by simp[h1],.inr ⟨rfl,rfl⟩,h2,h3,iU,h4⟩
 ·cases he
theorem Kz {ty:TypeId}{m k:X}{vm vk:Value}{e:Nat}{kt:KT}{z:T}{ok:Bool}(hc:zK P ty m k=some (e,kt,z))(h:SR w0 g H w)(hm:VR g w (m.ev R) vm)(hk:VR g w (k.ev R) vk)(he:au R H (.om kt z ok m k)=some (t,H')) :
  cq P w0 g H w (Instr.lookup ty vm vk ok) t H':=by
 obtain⟨key,ei,zv,hu,hi,hz,qR,qP⟩:=A9 hc
 simp only[au]at he
 split at he
 ·rename_i zD
  cases jm:ik H (m.ev R)with
  | none=>simp[jm]at he
  | some es =>
   simp only[jm]at he
   cases hr:dz (k.ev R) es with
   | none=>simp[hr]at he
   | some r =>
    cases r with
    | none =>
     simp only[hr,Option.some.injEq,Prod.mk.injEq]at he
     obtain⟨rfl,rfl⟩:=he
     exact A0 hu hi hz qR qP h hm hk zD jm hr rfl
    | some i =>
     simp only[hr]at he
     cases hx:es[i]? with
     | none=>simp[hx]at he
     | some x =>
      simp only[hx,Option.some.injEq,Prod.mk.injEq]at he
      obtain⟨rfl,rfl⟩:=he
      exact A0 hu hi hz qR qP h hm hk zD jm hr (by simp[hx])
 ·cases he
theorem CJ {ty:TypeId}{ps:List (Nat×X)}{pv:List (Nat×Value)}{b:Bo}(hc:pF P ty ps=some b)(h:SR w0 g H w)(hv:PV g w R ps pv)(he:au R H b=some (t,H')):cq P w0 g H w (Instr.build ty pv.toArray) t H':=by
 unfold pF at hc
 cases hu:P.underlying ty with
 | none=>simp[hu]at hc
 | some d =>
  cases hz:zeroOf P ty with
  | none=>cases d<;>simp[hu,hz]at hc
  | some z =>
   cases d<;>simp only[hu,hz]at hc<;>(try (cases hc;done))
   rename_i fs
   split at hc
   ·rename_i cM
    simp only[Bool.and_eq_true]at cM
    simp only[Option.some.injEq]at hc;subst hc
    obtain⟨i,zv,h1,h2,h3⟩:=gz hz
    simp only[au]at he
    split at he
    ·rename_i l hl
     simp only[Option.map_eq_some_iff,Prod.mk.injEq]at he
     obtain⟨cs,h4,rfl,rfl⟩:=he
     refine CC hu h1 h2 h3 (fun f hf=>?_) (fun p hp=>?_) h hv hl h4
     ·have:=cM.1
      simp only[xL,List.all_eq_true]at this
      exact Option.isSome_iff_exists.1 (this f hf)
     ·have:=cM.2
      simp only[List.all_eq_true,decide_eq_true_eq]at this
      exact this p hp
    ·cases he
   ·cases hc
theorem KA {ty:TypeId}{n:Nat}{ps:List (Nat×X)}{pv:List (Nat×Value)}{b:Bo}{mu:Bool}(hc:CG P mu ty n ps=some b)(h:SR w0 g H w)(hv:PV g w R ps pv)(he:au R H b=some (t,H')):cq P w0 g H w (Instr.buildSlice ty n pv.toArray) t H':=by
 unfold CG at hc
 cases hu:P.underlying ty with
 | none=>simp[hu]at hc
 | some d =>
  cases d<;>simp only[hu]at hc<;>(try (cases hc;done))
  rename_i e
  cases hi:P.info? e with
  | none=>simp[hi]at hc
  | some ei =>
   cases hz:zeroOf P e with
   | none=>simp[hi,hz]at hc
   | some z =>
    simp only[hi,hz]at hc
    split at hc
    ·rename_i cM
     simp only[Bool.and_eq_true,beq_iff_eq,decide_eq_true_eq]at cM
     simp at hc;subst hc
     obtain⟨i,zv,h1,h2,h3⟩:=gz hz
     rw[hi]at h1;cases h1
     cases mu with
     | false =>
      simp only[Bool.false_eq_true,if_false,au,Option.map_eq_some_iff,Prod.mk.injEq]at he
      obtain⟨fs,h4,rfl,rfl⟩:=he
      exact Ka hu hi h2 h3 cM.1 cM.2 h hv h4
     | true =>
      simp only[if_true,au,Option.bind_eq_some_iff]at he
      obtain⟨fs,h4,he⟩:=he
      split at he
      ·simp only[Option.some.injEq,Prod.mk.injEq]at he
       obtain⟨rfl,rfl⟩:=he
       exact Kh hu hi h2 h3 cM.1 cM.2 h hv h4
      ·cases he
    ·cases hc
theorem KB {ty:TypeId}{mu:Bool}{l c:X}{vl vc:Value}{b:Bo}(hc:CH P mu ty l c=some b)(h:SR w0 g H w)(hl:VR g w (l.ev R) vl)(rJ:VR g w (c.ev R) vc)(he:au R H b=some (t,H')):cq P w0 g H w (Instr.makeSlice ty vl vc) t H':=by
 unfold CH at hc
 cases hu:P.underlying ty with
 | none=>simp[hu]at hc
 | some d =>
  cases d<;>simp only[hu]at hc<;>(try (cases hc;done))
  rename_i e
  cases hi:P.info? e with
  | none=>simp[hi]at hc
  | some ei =>
   cases hz:zeroOf P e with
   | none=>simp[hi,hz]at hc
   | some z =>
    simp only[hi,hz]at hc
    split at hc
    ·rename_i cM
     simp only[Bool.and_eq_true,beq_iff_eq,bne_iff_ne]at cM
     simp at hc;subst hc
     obtain⟨i,zv,h1,h2,h3⟩:=gz hz
     rw[hi]at h1;cases h1
     simp only[au]at he
     cases Jk:cB (l.ev R)with
     | none=>simp[Jk]at he
     | some nl =>
      cases SE:cB (c.ev R)with
      | none=>simp[Jk,SE]at he
      | some nc =>
       simp only[Jk,SE]at he
       split at he
       ·rename_i js
        refine Kb (mu:=mu) hu hi h2 h3 cM.1 cM.2 h hl rJ Jk SE js.1 js.2.1 js.2.2 ?_
        cases mu with
        | true=>simpa using he
        | false =>
         simp only[Bool.false_eq_true,if_false]at he ⊢
         split at he
         ·rename_i e0;rw[if_pos e0];simpa using he
         ·rename_i e0;rw[if_neg e0];simpa using he
       ·cases he
    ·cases hc
theorem RV.get {xs:List Operand}(h:RV g w R ρ xs){x:Operand}{y:X}(hx:x∈xs)(hc:aS x=some y):VR g w (y.ev R) (ρ x):=h x hx y hc
theorem OK {mu:Bool}{o:Oper}{b:Bo}(hρ:∀f:FuncId,ρ (.func f)=.func (.func f) #[] #[])(hc:bO P mu o.op=some b)(h:SR w0 g H w)(hv:RV g w R ρ o.op.operands.toList)(he:au R H b=some (t,H')):Ku P w0 g H w (execOp ρ o) t H':=by
 obtain⟨dst,op,ty,pos,after,guard⟩:=o
 cases op<;>simp only[bO]at hc<;>(try (cases hc;done))<;>simp only[Op.operands]at hv
 case move x =>
  simp only[Option.map_eq_some_iff]at hc
  obtain⟨y,h1,rfl⟩:=hc
  simp only[au,Option.some.injEq,Prod.mk.injEq]at he
  obtain⟨rfl,rfl⟩:=he
  exact⟨_,_,w,g,rfl,.inl rfl,.refl _ _,h,hv.get (by simp) h1,.refl _ _⟩
 case assign x =>
  simp only[Option.map_eq_some_iff]at hc
  obtain⟨y,h1,rfl⟩:=hc
  simp only[au,Option.some.injEq,Prod.mk.injEq]at he
  obtain⟨rfl,rfl⟩:=he
  exact⟨_,_,w,g,rfl,.inl rfl,.refl _ _,h,hv.get (by simp) h1,.refl _ _⟩
 case pick c x y =>
  cases h1:aS c with
  | none=>simp[h1]at hc
  | some c' =>
   cases h2:aS x with
   | none=>simp[h1,h2]at hc
   | some x' =>
    cases h3:aS y with
    | none=>simp[h1,h2,h3]at hc
    | some y' =>
     simp only[h1,h2,h3,Option.some.injEq]at hc
     subst hc
     have vc:=hv.get (by simp) h1
     have vx:=hv.get (by simp) h2
     have vy:=hv.get (by simp) h3
     simp only[au]at he
     generalize c'.ev R=tc at vc he
     cases tc<;>(try simp only[reduceCtorEq]at he)
     simp only[Option.some.injEq,Prod.mk.injEq]at he
     obtain⟨rfl,rfl⟩:=he
     obtain⟨v,w',g',k1,k2⟩:=Ej (P:=P) h vc vx vy
     refine⟨.value v,v,w',g',?_,.inl rfl,k2⟩
     simp only[execOp,Sem.run_bind,Sem.run_pure]at k1 ⊢
     generalize (asBool (ρ c)).run P w=r at k1 ⊢
     cases r<;>simp_all
 case alloc ux =>
  simp only[Option.map_eq_some_iff]at hc
  obtain⟨z,h1,rfl⟩:=hc
  obtain⟨i,zv,h2,h3,h4⟩:=gz h1
  simp only[au,Option.some.injEq,Prod.mk.injEq]at he
  obtain⟨rfl,rfl⟩:=he
  exact(CB h2 h3 h4 h).oh
 case box ux x =>
  simp only[Option.map_eq_some_iff]at hc
  obtain⟨y,h1,rfl⟩:=hc
  simp only[au,Option.map_eq_some_iff,Prod.mk.injEq]at he
  obtain⟨cs,h2,rfl,rfl⟩:=he
  exact(J1 h (hv.get (by simp) h1) h2).oh
 case build ux ps =>
  simp only[Option.bind_eq_some_iff]at hc
  obtain⟨qs,h1,h2⟩:=hc
  have hp:=pG (ρ:=ρ) _ _ h1 (by simpa using hv)
  have:=(CJ h2 h hp he).oh
  have e:(ps.map fun x=>(x.1,ρ x.2))=(ps.toList.map fun p=>(p.1,ρ p.2)).toArray:=by apply Array.ext';simp
  simp only[execOp]
  rw[e];exact this
 case buildSlice ux n ps =>
  simp only[Option.bind_eq_some_iff]at hc
  obtain⟨qs,h1,h2⟩:=hc
  have hp:=pG (ρ:=ρ) _ _ h1 (by simpa using hv)
  have:=(KA h2 h hp he).oh
  have e:(ps.map fun x=>(x.1,ρ x.2))=(ps.toList.map fun p=>(p.1,ρ p.2)).toArray:=by apply Array.ext';simp
  simp only[execOp]
  rw[e];exact this
 case insert ux m k v =>
  cases h1:aS m with
  | none=>simp[h1]at hc
  | some m' =>
   cases h2:aS k with
   | none=>simp[h1,h2]at hc
   | some k' =>
    cases h3:aS v with
    | none=>simp[h1,h2,h3]at hc
    | some v' =>
     simp only[h1,h2,h3,Option.map_eq_some_iff]at hc
     obtain⟨⟨e,kt,z⟩,h4,rfl⟩:=hc
     exact Ba h4 h (hv.get (by simp) h1) (hv.get (by simp) h2) (hv.get (by simp) h3) he
 case mapUpdate ux m k v =>
  cases h1:aS m with
  | none=>simp[h1]at hc
  | some m' =>
   cases h2:aS k with
   | none=>simp[h1,h2]at hc
   | some k' =>
    cases h3:aS v with
    | none=>simp[h1,h2,h3]at hc
    | some v' =>
     simp only[h1,h2,h3,Option.map_eq_some_iff]at hc
     obtain⟨⟨e,kt,z⟩,h4,rfl⟩:=hc
     exact Ba h4 h (hv.get (by simp) h1) (hv.get (by simp) h2) (hv.get (by simp) h3) he
 case load ux x =>
  simp only[Option.bind_eq_some_iff]at hc
  obtain⟨y,h1,h2⟩:=hc
  exact EH h2 h (hv.get (by simp) h1) he
 case store ux a v =>
  cases h1:P.info? ux with
  | none=>simp[h1]at hc
  | some i =>
   cases h2:aS a with
   | none=>simp[h1,h2]at hc
   | some a' =>
    cases h3:aS v with
    | none=>simp[h1,h2,h3]at hc
    | some v' =>
     simp only[h1,h2,h3,Option.some.injEq]at hc
     subst hc
     simp only[au]at he
     cases h4:(v'.ev R).cells? with
     | none=>simp[h4]at he
     | some vs =>
      simp only[h4]at he
      split at he
      ·rename_i hn
       simp only[Option.map_eq_some_iff,Prod.mk.injEq]at he
       obtain⟨H1,h5,rfl,rfl⟩:=he
       obtain⟨w',g',k1,k2,k3,k4⟩:=Ou (P:=P) h1 h (hv.get (by simp) h2) (hv.get (by simp) h3) h4 hn h5
       exact⟨.skip,undef,w',g',by simp[execOp,k1],.inr ⟨rfl,rfl⟩,k2,k3,iU,k4⟩
      ·cases he
 case nilCheck x =>
  simp only[Option.map_eq_some_iff]at hc
  obtain⟨y,h1,rfl⟩:=hc
  have vx:=hv.get (by simp) h1
  simp only[au]at he
  have key:t=y.ev R∧H'=H∧∃v,(execOp ρ ⟨dst,.nilCheck x,ty,pos,after,guard⟩).run P w=.ok (.value v) w∧v=ρ x:=by
   simp only[execOp]
   generalize y.ev R=tx at vx he
   generalize ρ x=vv at vx
   cases vx<;>simp only[reduceCtorEq,Option.some.injEq,Prod.mk.injEq]at he<;>obtain⟨rfl,rfl⟩:=he<;>exact⟨rfl,rfl,_,rfl,rfl⟩
  obtain⟨rfl,rfl,v,k1,rfl⟩:=key
  exact⟨_,_,w,g,k1,.inl rfl,.refl _ _,h,vx,.refl _ _⟩
 case binOp op ux x y yt =>
  cases h1:aS x with
  | none=>simp[h1]at hc
  | some x' =>
   cases h2:aS y with
   | none=>simp[h1,h2]at hc
   | some y' =>
    simp only[h1,h2]at hc
    exact Kv hc h (hv.get (by simp) h1) (hv.get (by simp) h2) he
 case unOp op ux x =>
  simp only[Option.map_eq_some_iff]at hc
  obtain⟨y,h1,rfl⟩:=hc
  simp only[au,Option.map_eq_some_iff,Prod.mk.injEq]at he
  obtain⟨t',h2,rfl,rfl⟩:=he
  exact(Og h (hv.get (by simp) h1) h2).oh
 case convert s d x =>
  simp only[Option.bind_eq_some_iff]at hc
  obtain⟨y,h1,h2⟩:=hc
  exact EI h2 h (hv.get (by simp) h1) he
 case makeFunc fn first lR =>
  cases fn<;>simp only[bO]at hc<;>(try (cases hc;done))
  rename_i f
  split at hc
  ·rename_i h0
   simp only[Option.map_eq_some_iff]at hc
   obtain⟨ys,h1,rfl⟩:=hc
   have:first=#[]:=Array.eq_empty_of_size_eq_zero h0
   subst this
   simp only[au,Option.some.injEq,Prod.mk.injEq]at he
   obtain⟨rfl,rfl⟩:=he
   have jq:=gy (ρ:=ρ) _ _ h1 (fun x hx=>hv x (by simpa using hx))
   have:=(Kc (P:=P) (f:=f) h jq).oh
   have e:lR.map ρ=(lR.toList.map ρ).toArray:=by apply Array.ext';simp
   have e0:(#[]:Array Operand).map ρ=#[]:=by simp
   simp only[execOp]
   rw[e,e0];exact this
  ·cases hc
 case range ux m =>
  cases hu:P.underlying ux with
  | none=>simp[hu]at hc
  | some d =>
   cases d<;>simp only[hu]at hc<;>(try (cases hc;done))
   simp only[Option.map_eq_some_iff]at hc
   obtain⟨y,h1,rfl⟩:=hc
   have vm:=hv.get (by simp) h1
   simp only[au]at he
   generalize y.ev R=tm at vm he
   cases tm<;>(try (simp only[reduceCtorEq]at he;done))
   rename_i bb
   simp only[Option.map_eq_some_iff,Prod.mk.injEq]at he
   obtain⟨es,h2,rfl,rfl⟩:=he
   exact(Kn hu h vm h2).oh
 case next it str =>
  cases str<;>simp only[bO]at hc<;>(try (cases hc;done))
  simp only[Option.map_eq_some_iff]at hc
  obtain⟨y,h1,rfl⟩:=hc
  simp[au]at he
 case entry it =>
  simp only[Option.map_eq_some_iff]at hc
  obtain⟨y,h1,rfl⟩:=hc
  have vm:=hv.get (by simp) h1
  simp only[au]at he
  generalize y.ev R=tm at vm he
  cases tm<;>(try (simp only[reduceCtorEq]at he;done))
  rename_i bi off
  cases off with
  | succ _=>simp at he
  | zero =>
   simp only at he
   cases hi:H[bi]? with
   | none=>simp[hi]at he
   | some yi =>
    cases yi<;>simp only[hi]at he<;>(try (cases he;done))
    rename_i bb
    cases hb:H[bb]? with
    | none=>simp[hb]at he
    | some yb =>
     cases yb<;>simp only[hb]at he<;>(try (cases he;done))
     rename_i es ix Tk cur
     cases cur with
     | none=>simp at he
     | some c =>
      simp only at he
      split at he
      ·rename_i e;subst e
       simp only[Option.map_eq_some_iff,Prod.mk.injEq]at he
       obtain⟨e,h2,rfl,rfl⟩:=he
       exact(Kr h vm hb h2).oh
      ·cases he
 case makeMap ux r =>
  cases r with
  | some _=>simp[bO]at hc
  | none =>
   simp only[bO,Option.some.injEq]at hc
   subst hc
   simp only[au,Option.some.injEq,Prod.mk.injEq]at he
   obtain⟨rfl,rfl⟩:=he
   exact(J2 h).oh
 case makeSlice ux l c =>
  cases h1:aS l with
  | none=>simp[h1]at hc
  | some l' =>
   cases h2:aS c with
   | none=>simp[h1,h2]at hc
   | some c' =>
    simp only[h1,h2]at hc
    exact(KB hc h (hv.get (by simp) h1) (hv.get (by simp) h2) he).oh
 case slice ux x lo hi mx =>
  cases h1:aS x with
  | none=>simp[h1]at hc
  | some x' =>
   cases h2:kM lo with
   | none=>simp[h1,h2]at hc
   | some lo' =>
    cases h3:kM hi with
    | none=>simp[h1,h2,h3]at hc
    | some lF =>
     cases h4:kM mx with
     | none=>simp[h1,h2,h3,h4]at hc
     | some mx' =>
      simp only[h1,h2,h3,h4]at hc
      exact CI hc h (hv.get (by simp) h1) (pJ h2 (fun z hz=>hv z (by simp;simp at hz;simp[hz]))) (pJ h3 (fun z hz=>hv z (by simp;simp at hz;simp[hz]))) (pJ h4 (fun z hz=>hv z (by simp;simp at hz;simp[hz]))) he
 case fieldAddr ux x f =>
  simp only[Option.bind_eq_some_iff]at hc
  obtain⟨y,h1,h2⟩:=hc
  exact(uv h2 h (hv.get (by simp) h1) he).oh
 case field ux x f =>
  simp only[Option.bind_eq_some_iff]at hc
  obtain⟨y,h1,h2⟩:=hc
  exact(uv h2 h (hv.get (by simp) h1) he).oh
 case indexAddr ux x i =>
  cases h1:aS x with
  | none=>simp[h1]at hc
  | some x' =>
   cases h2:aS i with
   | none=>simp[h1,h2]at hc
   | some i' =>
    simp only[h1,h2]at hc
    exact(A7 hc h (hv.get (by simp) h1) (hv.get (by simp) h2) he).oh
 case index ux x i =>
  cases h1:aS x with
  | none=>simp[h1]at hc
  | some x' =>
   cases h2:aS i with
   | none=>simp[h1,h2]at hc
   | some i' =>
    simp only[h1,h2]at hc
    exact(A7 hc h (hv.get (by simp) h1) (hv.get (by simp) h2) he).oh
 case lookup ux m k ok =>
  cases h1:aS m with
  | none=>simp[h1]at hc
  | some m' =>
   cases h2:aS k with
   | none=>simp[h1,h2]at hc
   | some k' =>
    simp only[h1,h2,Option.map_eq_some_iff]at hc
    obtain⟨⟨e,kt,z⟩,h4,rfl⟩:=hc
    exact(Kz h4 h (hv.get (by simp) h1) (hv.get (by simp) h2) he).oh
 case extract x i =>
  simp only[Option.map_eq_some_iff]at hc
  obtain⟨y,h1,rfl⟩:=hc
  have vx:=hv.get (by simp) h1
  simp only[au]at he
  generalize y.ev R=tx at vx he
  cases tx<;>(try simp only[reduceCtorEq]at he)
  simp only[Option.map_eq_some_iff,Prod.mk.injEq]at he
  obtain⟨t',h2,rfl,rfl⟩:=he
  exact(JZ h vx h2).oh
 case call c =>
  obtain⟨callee,args,jy⟩:=c
  cases callee
  case value cv =>
   cases cv<;>simp only[bO]at hc<;>(try (cases hc;done))
   rename_i f
   split at hc
   ·rename_i n x y xh h1
    simp only[Option.some.injEq]at hc;subst hc
    have jq:=gy (ρ:=ρ) _ _ h1 (fun x hx=>hv x (by simp[Call.operands];exact .inr (by simpa using hx)))
    simp only[au]at he
    have hd:=Ky xh h jq he
    simpa[execOp,resolve,hρ,Deferred.ofValue,invoke]using hd
   ·cases hc
  all_goals simp only[bO]at hc<;>(try (cases hc;done))
  rename_i bi
  simp only[Option.bind_eq_some_iff]at hc
  obtain⟨as,h1,h2⟩:=hc
  have jq:=gy (ρ:=ρ) _ _ h1 (fun x hx=>hv x (by simpa[Call.operands]using hx))
  have e:args.map ρ=(args.toList.map ρ).toArray:=by apply Array.ext';simp
  have e2:jy=jy.toList.toArray:=by simp
  have:=xM (rt:=ty) (cs:=args.map fun | .const _=>true|_=>false) h2 h jq he
  simp only[execOp,resolve,pure_bind,invoke]
  rw[e,e2]
  exact this
end
section
variable {P:Program} {w0 w:World} {g:Ctx} {H:af}
theorem SR.vJ {b r o q:Nat}{x x':Obj}{y y':B}(h:SR w0 g H w)(hb:H[b]?=some y)(hφ:g.φ b=some (r,o,q))(h1:g.κ r 0=.mut b)(hr:w.heap[r]?=some x)(hs:fR x=true)(ff:fR x'=true)
  (qP:∀w',Le g w g w'→w'.heap[r]?=some x'→AW g w' b y') :
  Le g w g (w.putObj r x')∧SR w0 g (H.set b y') (w.putObj r x')∧Fr g H g (H.set b y'):=by
 have kH:b<H.length:=(List.getElem?_eq_some_iff.1 hb).1
 have tr:Tr w (w.putObj r x') iu (fun r'=>r'=r):=Tr.zE w r hs ff hr
 have le:Le g w g (w.putObj r x'):=Le.iR tr (fun _ _ h=>h) (fun _ _ h=>h) (fun _ _ _ h=>h) (fun _ _ hs=>hs.elim)
 refine⟨le,h.step (fun b'=>b'=b) tr le (fun _ _ hs=>hs.elim) (fun r' hm=>⟨b,by rw[hm];exact h1,rfl⟩) (fun r' j pn=>h.fresh r' j (by simpa[World.putObj]using pn)) (fun b' x hx=>by rw[List.length_set];exact h.tF b' x hx)
  (fun t e x hx=>by rw[List.length_set];exact h.jH t e x hx) (fun _ _ _=>rfl) (fun _ _ _ _=>⟨id,id⟩) (fun _ _ _ _=>rfl) (fun b' x hx=>?_),by simp,fun b' x a _ d=>⟨fT a (by rintro rfl;rw[hφ]at d;cases d),d⟩⟩
 rcases e9 kH hx with⟨rfl,rfl⟩|⟨bF,jW⟩
 ·exact .inr (qP _ le (World.putObj_heap_same (Array.getElem?_eq_some_iff.1 hr).1))
 ·exact .inl ⟨bF,jW⟩
theorem SR.EJ {x:Obj}{y:B}(h:SR w0 g H w)(Zr:fR x=true)
  (qP:∀g' w',Le g w g' w'→g'.κ w.heap.size 0=.mut H.length→g'.φ H.length=some (w.heap.size,0,0)→w'.heap[w.heap.size]?=some x→AW g' w' H.length y) :
  ∃g',Le g w g' (w.alloc x)∧SR w0 g' (H++[y]) (w.alloc x)∧Fr g H g' (H++[y])∧g'.φ H.length=some (w.heap.size,0,0):=by
 have xG:=Tr.alloc w x (.inl Zr)
 have bF:∀r j ow,g.κ r j=ow→ow≠.free→r≠w.heap.size:=by rintro r j ow e hn rfl;exact hn (e▸h.fresh _ j (Nat.le_refl _))
 have Zs:=h.J0 (b:=H.length) (Nat.le_refl _)
 have le:Le g w ((g.row w.heap.size fun _=>.mut H.length).at H.length (w.heap.size,0,0)) (w.alloc x):=Le.iR xG
  (fun b' x hx=>by simp only[Ctx.at,Ctx.row];split;rename_i e;subst e;rw[Zs]at hx;simp at hx;exact hx)
  (fun r o hk=>by simp only[Ctx.row,Ctx.at];rw[if_neg (bF r o _ hk (by simp))];exact hk) (fun _ _ _ h=>h) (fun _ _ hs=>hs.elim)
 refine⟨_,le,?_,⟨by simp,fun b x a _ d=>⟨jA a,?_⟩⟩,by simp[Ctx.at]⟩
 ·refine h.step (fun b'=>b'=H.length) xG le (fun _ _ hs=>hs.elim) (fun _ hm=>hm.elim) (fun r o hr=>?_) (fun b' x hx=>?_) (fun t e x hx=>by have:=h.jH t e x hx;simp;omega) (fun b' _ jN=>?_) (fun r j b' jN=>?_) (fun _ _ _ _=>rfl) (fun b' x hx=>?_)
  ·simp at hr
   simp only[Ctx.row,Ctx.at];rw[if_neg (by omega)];exact h.fresh r o (by omega)
  ·simp only[Ctx.at,Ctx.row]at hx
   split at hx
   ·rename_i e;subst e;simp
   ·have:=h.tF b' x hx;simp;omega
  ·simp only[Ctx.at,Ctx.row];rw[if_neg jN]
  ·constructor<;>intro e<;>simp only[Ctx.row,Ctx.at]<;>rw[if_neg (bF r j _ e (by simp))]<;>exact e
  ·by_cases e:b'=H.length
   ·subst e
    rw[fS]at hx;cases hx
    exact .inr (qP _ _ le (by simp[Ctx.row,Ctx.at]) (by simp[Ctx.at]) (World.alloc_heap_new w _))
   ·exact .inl ⟨e,dh e hx⟩
 ·have:=(List.getElem?_eq_some_iff.1 a).1
  simp only[Ctx.at,Ctx.row];rw[if_neg (by omega)];exact d
theorem SR.freeze {b:Nat}{cs:List T}(h:SR w0 g H w)(hb:H[b]?=some (.cells cs))(hφ:∃x,g.φ b=some x) :
  ∃g',Le g w g' w∧SR w0 g' (H.set b .dead) w∧Fr g H g' (H.set b .dead)∧∀t v,VR g w t v→VR g' w (zx b cs t) v:=by
 let g':Ctx:={ g with κ:=fun r o=>if g.κ r o=.mut b then .nf else g.κ r o }
 have le:Le g w g' w:=⟨fun _ _ h=>h,fun r o e=>by simp only[g'];rw[e];simp,fun _ _ _ h=>h,fun _ _ _ _ h=>h,rfl⟩
 have kH:b<H.length:=(List.getElem?_eq_some_iff.1 hb).1
 have tr:Tr w w (fun _ _=>False) (fun _=>False):=⟨Nat.le_refl _,fun _ _ _ _=>rfl,fun _ _ _=>rfl,fun _ _ _ h=>h,fun _ _ _ _ h=>h,fun _ _ _ _=>rfl,fun r j hr=>dI hr,rfl,rfl⟩
 have sr:SR w0 g' (H.set b .dead) w:=by
  refine h.step (fun b'=>b'=b) tr le (fun _ _ h=>h.elim) (fun _ h=>h.elim) (fun r o hr=>?_) (fun b' x hx=>?_) (fun t e x hx=>?_) (fun _ _ _=>rfl) (fun r j b' bF=>⟨fun e=>?_,fun e=>?_⟩) (fun _ _ _ _=>rfl) (fun b' x hx=>?_)
  ·simp only[g'];rw[h.fresh r o hr];simp
  ·rw[List.length_set];exact h.tF b' x hx
  ·rw[List.length_set];exact h.jH t e x hx
  ·simp only[g'];rw[e,if_neg (by simpa using bF)]
  ·simp only[g'];rw[e,if_neg (by simp)]
  ·rcases e9 kH hx with⟨rfl,rfl⟩|⟨bF,jW⟩
   ·exact .inr trivial
   ·exact .inl ⟨bF,jW⟩
 have one:∀t v,VR g w t v→VR g' w (xw b cs t) v:=by
  intro t v hv
  cases t with
  | aC b' off len n =>
   simp only[xw]
   split
   ·rename_i hc
    obtain⟨rfl,hle⟩:=hc
    cases hv with
    | @aC _ _ _ _ r o q cap hp hc hq =>
     obtain⟨c1,c2,c3⟩:=h.eG _ _ hb r o q hp
     have hlen:(tE cs off len n).length=len:=by simp[tE]
     have Zu:∀(i j:Nat) (c:List T) (t:T),(tE cs off len n)[i]?=some c→c[j]?=some t→j<n∧i<len∧cs[off+i*n+j]?=some t:=by
      intro i j c t hi hj
      have mc:i<len:=by have:=(List.getElem?_eq_some_iff.1 hi).1;rw[hlen]at this;exact this
      simp only[tE,List.getElem?_map,List.getElem?_range mc,Option.map_some,Option.some.injEq]at hi
      subst hi
      rw[List.getElem?_take]at hj
      split at hj
      ·rename_i zM
       rw[List.getElem?_drop]at hj
       exact⟨zM,mc,hj⟩
      ·cases hj
     have key:∀(i j:Nat) (c:List T) (t:T),(tE cs off len n)[i]?=some c→c[j]?=some t→t.one=true∧∃v,w.cell? ⟨r,o+off+i*n+j,none⟩=some v∧VR g w t v∧g.κ r (o+off+i*n+j)=.mut b':=by
      intro i j c t hi hj
      obtain⟨h1,h2,h3⟩:=Zu i j c t hi hj
      obtain⟨k1,v,k2,k3⟩:=c3 _ _ h3
      have iI:off+i*n+j<cs.length:=(List.getElem?_eq_some_iff.1 h3).1
      refine⟨k1,v,?_,k3,?_⟩
      ·rw[show o+off+i*n+j=o+(off+i*n+j) by omega];exact k2
      ·exact(c2 (o+off+i*n+j) (by omega) (by omega)).1
     have:=VR.sl (g:=g') (w:=w) (k:=.arg) (es:=tE cs off len n) (r:=r) (o:=o+off) (cap:=cap) (n:=n) (fun i j=>(w.cell? ⟨r,o+off+i*n+j,none⟩).getD undef) trivial (by rw[hlen];exact hc)
      (fun c ir=>by
       obtain⟨i,hi,rfl⟩:=List.mem_map.1 ir
       have hi:=List.mem_range.1 hi
       have:i*n+n≤len*n:=by rw[←Nat.succ_mul];exact Nat.mul_le_mul_right n hi
       rw[List.length_take,List.length_drop];omega)
      (fun i j c t hi hj=>by
       obtain⟨k1,v,k2,_,k4⟩:=key i j c t hi hj
       refine⟨k1,?_,by rw[k2];rfl⟩
       simp only[g'];rw[if_pos k4])
      (fun i j c t hi hj=>by
       obtain⟨_,v,k2,k3,_⟩:=key i j c t hi hj
       rw[k2];exact k3.mono le)
     rw[hlen]at this
     exact this
   ·exact hv.mono le
  | _=>exact hv.mono le
 refine⟨g',le,sr,⟨by simp,fun b' y a _ d=>⟨fT a (by rintro rfl;obtain⟨x,hx⟩:=hφ;rw[hx]at d;cases d),d⟩⟩,fun t v hv=>?_⟩
 cases t with
 | bC vs =>
  cases hv with
  | bC hl h2 =>
   refine .bC (by simpa using hl) fun i t v hi Bb=>?_
   rw[List.getElem?_map,Option.map_eq_some_iff]at hi
   obtain⟨t',KC,rfl⟩:=hi
   exact one _ _ (h2 i t' v KC Bb)
 | _=>exact one _ _ hv
end
def dS (P:Program)(f:FuncId):Bool :=
 match P.funcs[f]? with
 | some fn=>fn.name != "runtime.NumGoroutine"&&fn.body.isSome
 | none=>false
def bX (P:Program)(mu:Bool):Op→Option MC
 | .call { callee:=.value (.func f),args,.. }=>if dS P f then(gx args.toList).map (.call f)else match A6 P f,gx args.toList with
  | some n,some [x,y]=>some (.b (.Sn n x y))
  | _,_=>none
 | .call { callee:=.value (.tmp t),args,.. }=>(gx args.toList).map (.bJ (.r t))
 | op=>(bO P mu op).map .b
def uy (ops:Array Oper):Option (Nat×Bool)→Option Gd
 | none=>some none
 | some (j,b)=>match (ops[j]?).bind (·.dst)with
  | some d=>some (some (d,b))
  | none=>none
def eA:X→List Nat
 | .r t=>[t]
 | .c _=>[]
def pK:Option X→List Nat
 | some x=>eA x
 | none=>[]
def EK:Bo→List Nat
 | .ar x | .un _ x | .fG _ x | .AO x | .cvb x | .len _ x | .box x | .ld _ _ x | .fL _ x | .Tf _ _ _ x | .ext _ x | .lS x | .cap x | .N8 x | .qM x | .N9 x | .So _ _ x=>eA x
 | .bin _ x y | .nH _ _ x y | .beq _ x y | .eqs _ _ x y | .st _ x y | .eF _ x y | .N7 _ _ x y | .Tg x y | .X5 _ _ _ x y | .om _ _ _ x y | .del _ x y | .app _ _ _ x y | .Zb _ _ _ x y | .mn x y | .mx x y | .Cl _ x y | .Sn _ x y | .Ti _ _ _ x y=>eA x++eA y
 | .pick x y z | .AQ _ x y z=>eA x++eA y++eA z
 | .build _ ps=>ps.flatMap fun p=>eA p.2.2
 | .mJ _ _ ps | .Sp _ _ ps=>ps.flatMap fun p=>eA p.2
 | .Th x lo hi=>eA x++pK lo++pK hi
 | .gH _ x lo hi mx=>eA x++pK lo++pK hi++pK mx
 | .JG _ l=>l.flatMap eA
 | .alloc _ | .AP=>[]
def Bc:MC→List Nat
 | .b b=>EK b
 | .call _ as=>as.flatMap eA
 | .bJ f as=>eA f++as.flatMap eA
def nz:Gd→List Nat
 | some (t,_)=>[t]
 | none=>[]
def fx (l:List Operand):List Nat:=l.filterMap fun | .tmp t=>some t|_=>none
def tmpsOf (o:Oper)(op:MC)(g:Gd):List Nat:=fx o.op.operands.toList++(nz g++Bc op)
def gn (P:Program)(n:Nat)(ops:Array Oper)(mu:Bool)(o:Oper)(Cm:List Rd):Option O :=
 match bX P mu o.op,uy ops o.guard with
 | some op,some g=>if (tmpsOf o op g).all (·<n)&&(o.dst.all (·<n))then some ⟨o.dst,op,g,Cm⟩else none
 | _,_=>none
def gN (P:Program)(n:Nat)(ops:Array Oper)(mu:Nat→Bool):List Nat→Option (List O)
 | []=>some []
 | i :: is=>match ops[i]? with
  | some o=>match gn P n ops (mu i) o [],gN P n ops mu is with
   | some o,some l=>some (o :: l)
   | _,_=>none
  | none=>none
def cJ (o:Oper):List Nat:=(o.after.toList.filter fun e=>Region.binds .any e).map (·.on)
def kO (acc:List Nat)(o:Oper):Nat:=(cJ o).foldl (fun s j=>s ||| 2^j ||| acc.getD j 0) 0
def fq:List Oper→List Nat→List Nat
 | [],acc=>acc
 | o :: l,acc=>fq l (acc++[kO acc o])
inductive Kl where|pure|read|make|OL
 deriving DecidableEq
def rL:Bo→Kl
 | .ar _ | .pick _ _ _ | .bin _ _ _ | .beq _ _ _ | .eqs _ _ _ _ | .un _ _ | .fG _ _ | .build _ _ | .mJ _ _ _ | .fL _ _ | .Tf _ _ _ _ | .eF _ _ _ | .N7 _ _ _ _ | .Tg _ _ | .X5 _ _ _ _ _ | .Th _ _ _ | .gH _ _ _ _ _
 | .JG _ _ | .ext _ _ | .mn _ _ | .mx _ _ | .lS _=>.pure
 | .nH _ c _ _=>if c=.slice then .OL else .pure
 | .ld _ _ _ | .om _ _ _ _ _ | .len _ _ | .AO _=>.read
 | .alloc _ | .AP=>.make
 | _=>.OL
def Jl (o:O):Kl:=match o.op with
 | .b b=>match o.d with|some _=>rL b|none=>.OL
 | _=>.OL
structure It where
 i:Nat
 o:O
 early:Bool
 ts:List Nat
def jI (b:Nat):List It→List Rd
 | []=>[]
 | y :: l=>match y.early,y.o.d,y.o.op with
  | true,some d,.b op=>if rL op=.read∧b.testBit y.i=false then⟨d,op,y.o.g⟩ :: jI b l else jI b l
  | _,_,_=>jI b l
def zN:Op→Bool
 | .alloc _ | .makeMap _ none=>true
 | _=>false
def EL (b:Nat)(before:List It)(x:It)(oper:Oper):Bool :=
 ((cJ oper).all fun j=>decide (j<x.i)&&before.any (·.i==j)) &&
 (before.all fun y=>y.early||b.testBit y.i) &&
 (before.all fun y=>y.i != x.i) &&
 (match x.o.d with
  | some d=>(before.all fun y=>y.o.d != some d&&(!y.ts.contains d||(!x.early&&b.testBit y.i)))&&!x.ts.contains d
  | none=>true) &&
 (before.all fun y=>match y.o.d with
  | some d=>!x.ts.contains d||b.testBit y.i
  | none=>true) &&
 (!x.early||(Jl x.o != .OL&&(Jl x.o != .make||zN oper.op)))
def zO (P:Program)(n:Nat)(ops:Array Oper)(mu:Nat→Bool)(b:Nat)(before:List It)(x:Nat×Bool):Option It :=
 match ops[x.1]? with
 | some o=>match gn P n ops (mu x.1) o (if x.2 then []else jI b before)with
  | some o'=>let y:It:=⟨x.1,o',x.2,tmpsOf o o'.op o'.g⟩
   if EL b before y o then some y else none
  | none=>none
 | none=>none
def eC (P:Program)(n:Nat)(ops:Array Oper)(mu:Nat→Bool)(bs:List Nat)(before:List It):List (Nat×Bool)→Option (List It)
 | []=>if (List.range ops.size).all fun i=>before.any (·.i==i)then some []else none
 | x :: l=>match zO P n ops mu (bs.getD x.1 0) before x with
  | some y=>(eC P n ops mu bs (before++[y]) l).map (y :: ·)
  | none=>none
structure An where
 mu:List (Nat×Nat)
 ord:List (Nat×List (Nat×Bool))
def bE (P:Program)(n:Nat)(an:An)(top:Bool):Code→Option C
 | .skip=>some .skip
 | .region id ops false=>(gN P n ops (fun i=>an.mu.contains (id,i)) (List.range ops.size)).map .ops
 | .region id ops true=>match an.ord.find? (·.1==id)with
  | some (_,ord)=>(eC P n ops (fun i=>an.mu.contains (id,i)) (fq ops.toList []) [] ord).map fun kQ=>.ops (kQ.map (·.o))
  | none=>none
 | .seq a b=>match bE P n an top a,bE P n an top b with
  | some a,some b=>some (.seq a b)
  | _,_=>none
 | .cond c a b=>match aS c,bE P n an top a,bE P n an top b with
  | some x,some a,some b=>if (match c with | .tmp t=>decide (t<n)|_=>true)then some (.cond x a b)else none
  | _,_,_=>none
 | .block id a=>(bE P n an top a).map (.block id)
 | .loop a=>(bE P n an top a).map .loop
 | .exit id=>some (.exit id)
 | .ret=>some .ret
 | .rangeFunc g ps cj body=>match aS g,bE P n an false cj,bE P n an false body with
  | some x,some a,some b=>if top&&(eA x).all (·<n)&&ps.toList.all (·<n)then some (.cZ n x ps.toList a b)else none
  | _,_,_=>none
 | _=>none
def oK (P:Program):List ResultVar→Option (List Rs)
 | []=>some []
 | .tmp t :: l=>(oK P l).map (.t t :: ·)
 | .cell a t :: l=>match P.underlying t,P.info? t with
  | some d,some i=>(oK P l).map (.cl a (if eM d then i.size else 1) (eM d) :: ·)
  | _,_=>none
def CK (n:Nat):Rs→Bool
 | .t r | .cl r _ _=>r<n
def al (P:Program)(an:An)(f:FuncId):Option Fn :=
 match P.funcs[f]? with
 | some fn=>match fn.body,oK P fn.results.toList with
  | some c,some res=>match bE P fn.ntmps an true c with
   | some c=>if dS P f&&decide (fn.params.size+fn.nfree≤fn.ntmps)&&res.all (CK fn.ntmps)then some ⟨fn.ntmps,fn.params.size+fn.nfree,res,c⟩else none
   | none=>none
  | _,_=>none
 | none=>none
section
variable {R R':ax} {H:af}
theorem cU {x:X}(h:∀t∈eA x,R t=R' t):x.ev R=x.ev R':=by
 cases x with
 | r t=>exact h t (by simp[eA])
 | c v=>rfl
theorem mP {x:Option X}{d:Nat}(h:∀t∈pK x,R t=R' t):hJ R d x=hJ R' d x:=by
 cases x with
 | none=>rfl
 | some x=>simp only[hJ];rw[cU h]
theorem oL:∀(ps:List (Nat×Nat×X)),(∀t∈ps.flatMap (fun p=>eA p.2.2),R t=R' t)→fO R ps=fO R' ps
 | [],_=>rfl
 | (off,n,x) :: ps,h=>by
  simp only[fO]
  rw[cU (x:=x) (R':=R') (fun t ht=>h t (by simp[ht])),oL ps (fun t ht=>h t (by rw[List.flatMap_cons];exact List.mem_append_right _ ht))]
theorem qp (n:Nat):∀(ps:List (Nat×X)) (es:List (List T)),(∀t∈ps.flatMap (fun p=>eA p.2),R t=R' t)→jT n es R ps=jT n es R' ps
 | [],_,_=>rfl
 | (i,x) :: ps,es,h=>by
  simp only[jT]
  rw[cU (x:=x) (R':=R') (fun t ht=>h t (by simp[ht]))]
  split
  ·split
   ·exact qp n ps _ (fun t ht=>h t (by rw[List.flatMap_cons];exact List.mem_append_right _ ht))
   ·rfl
  ·rfl
theorem qq (n:Nat):∀(ps:List (Nat×X)) (es:List (List T)),(∀t∈ps.flatMap (fun p=>eA p.2),R t=R' t)→jU n es R ps=jU n es R' ps
 | [],_,_=>rfl
 | (i,x) :: ps,es,h=>by
  simp only[jU]
  rw[cU (x:=x) (R':=R') (fun t ht=>h t (by simp[ht]))]
  split
  ·split
   ·exact qq n ps _ (fun t ht=>h t (by rw[List.flatMap_cons];exact List.mem_append_right _ ht))
   ·rfl
  ·rfl
theorem rM:∀(l:List X),(∀t∈l.flatMap eA,R t=R' t)→l.map (X.ev R)=l.map (X.ev R')
 | [],_=>rfl
 | x :: l,h=>by
  simp only[List.map_cons]
  rw[cU (x:=x) (R':=R') (fun t ht=>h t (by simp[ht])),rM l (fun t ht=>h t (by rw[List.flatMap_cons];exact List.mem_append_right _ ht))]
theorem rN {b:Bo}(h:∀t∈EK b,R t=R' t):au R H b=au R' H b:=by
 cases b<;>simp only[EK,List.mem_append]at h
 case build z ps=>simp only[au];rw[oL ps h]
 case mJ n z ps=>simp only[au];rw[qp _ ps _ h]
 case Sp n z ps=>simp only[au];rw[qq _ ps _ h]
 case JG f l=>simp only[au,MD];rw[rM l h]
 case alloc=>rfl
 case AP=>rfl
 case Th x lo hi =>
  have h1:=cU (x:=x) (R:=R) (R':=R') (fun t ht=>h t (.inl (.inl ht)))
  have h2:=fun d=>mP (x:=lo) (d:=d) (R:=R) (R':=R') (fun t ht=>h t (.inl (.inr ht)))
  have h3:=fun d=>mP (x:=hi) (d:=d) (R:=R) (R':=R') (fun t ht=>h t (.inr ht))
  simp only[au,h1,h2,h3]
 case gH n x lo hi mx =>
  have hm:∀m,mx=some m→m.ev R=m.ev R':=fun m e=>cU (fun t ht=>h t (.inr (by subst e;exact ht)))
  have h1:=cU (x:=x) (R:=R) (R':=R') (fun t ht=>h t (.inl (.inl (.inl ht))))
  have h2:=fun d=>mP (x:=lo) (d:=d) (R:=R) (R':=R') (fun t ht=>h t (.inl (.inl (.inr ht))))
  have h3:=fun d=>mP (x:=hi) (d:=d) (R:=R) (R':=R') (fun t ht=>h t (.inl (.inr ht)))
  simp only[au,h1,h2,h3]
  cases mx with
  | none =>
   cases x.ev R' with
   | sl k es=>dsimp only;cases hJ R' 0 lo with
    | none=>rfl
    | some l=>cases hJ R' es.length hi<;>rfl
   | aC b off len n'=>rfl
   | _=>rfl
  | some m =>
   cases x.ev R' with
   | sl k es=>dsimp only;cases hJ R' 0 lo with
    | none=>rfl
    | some l=>cases hJ R' es.length hi with
     | none=>rfl
     | some h=>dsimp only;rw[hm m rfl]
   | aC b off len n'=>rfl
   | _=>rfl
 all_goals first
  | (simp only[au,cU h];done)
  | (rename_i x;simp only[au];rw[cU (x:=x) (R':=R') h])
  | (rename_i x y;simp only[au];rw[cU (x:=x) (R':=R') (fun t ht=>h t (.inl ht)),cU (x:=y) (R':=R') (fun t ht=>h t (.inr ht))])
  | (rename_i x y z;simp only[au];rw[cU (x:=x) (R':=R') (fun t ht=>h t (.inl (.inl ht))),cU (x:=y) (R':=R') (fun t ht=>h t (.inl (.inr ht))),cU (x:=z) (R':=R') (fun t ht=>h t (.inr ht))])
theorem me {g:Gd}(h:∀t∈nz g,R t=R' t):bV R g=bV R' g:=by
 cases g with
 | none=>rfl
 | some p=>obtain⟨t,b⟩:=p;simp only[bV];rw[h t (by simp[nz])]
theorem xN {b:Bo}(hk:rL b=.pure)(H2:af):au R H2 b=(au R H b).map fun p=>(p.1,H2):=by
 cases b<;>simp only[rL]at hk<;>(try (cases hk;done))<;>simp only[au]
 case gH n x lo hi mx =>
  cases x.ev R with
  | sl k es =>
   dsimp only
   cases hJ R 0 lo with
   | none=>rfl
   | some l=>cases hJ R es.length hi with
    | none=>rfl
    | some h=>cases mx with
     | none=>dsimp only;split<;>rfl
     | some m=>dsimp only;cases cB (m.ev R)with
      | none=>rfl
      | some m=>dsimp only;split<;>rfl
  | aC b off len n' =>
   dsimp only
   cases hJ R 0 lo with
   | none=>rfl
   | some l=>cases hJ R len hi with
    | none=>rfl
    | some h=>cases mx with
     | none=>dsimp only;split<;>rfl
     | some m=>rfl
  | eH b off len n' c =>
   dsimp only
   cases hJ R 0 lo with
   | none=>rfl
   | some l=>cases hJ R len hi with
    | none=>rfl
    | some h=>cases mx with
     | none=>dsimp only;split<;>rfl
     | some m=>rfl
  | _=>rfl
 all_goals (try rfl)
 all_goals (try (simp[Option.map_map,Function.comp_def];done))
 all_goals (try (simp[Option.map_map,Option.map_bind,Function.comp_def];done))
 all_goals (repeat' split)
 all_goals (try (simp_all [Option.map_map,Function.comp_def];done))
theorem uz {b:Bo}{v:T}{H':af}(hk:rL b=.pure)(h:au R H b=some (v,H')):H'=H∧∀H2,au R H2 b=some (v,H2):=by
 constructor
 ·have h1:=xN (R:=R) (H:=H) hk H
  rw[h]at h1;simp at h1;exact h1
 ·intro H2;rw[xN (H:=H) hk H2,h];rfl
theorem mQ {l:af}{b:Nat}{x:B}(h:H[b]?=some x):(H++l)[b]?=some x:=by
 rw[List.getElem?_append_left (List.getElem?_eq_some_iff.1 h).1];exact h
theorem KD {n:Nat}{t:T}{cs:List T}(l:af)(h:nu H n t=some cs):nu (H++l) n t=some cs:=by
 unfold nu at *
 cases t<;>simp only[]at h ⊢<;>try (first|exact h|cases h)
 rename_i b off
 cases hb:H[b]? with
 | none=>simp[hb]at h
 | some x=>rw[hb]at h;rw[mQ hb];exact h
theorem CL {t:T}{es:List (T×T)}(l:af)(h:ik H t=some es):ik (H++l) t=some es:=by
 unfold ik at *
 cases t<;>simp only[]at h ⊢<;>try (first|exact h|cases h)
 rename_i b
 cases hb:H[b]? with
 | none=>simp[hb]at h
 | some x=>rw[hb]at h;rw[mQ hb];exact h
theorem EM {t:T}{k:Lc}{n:Nat}(l:af)(h:jG H k t=some n):jG (H++l) k t=some n:=by
 unfold jG at *
 cases k<;>cases t<;>simp only[]at h ⊢<;>try (first|exact h|cases h)
 rename_i b
 cases hb:H[b]? with
 | none=>simp[hb]at h
 | some x=>rw[hb]at h;rw[mQ hb];exact h
theorem xO {t:T}{n:Nat}{es:List (List T)}(l:af)(h:bG H n t=some es):bG (H++l) n t=some es:=by
 unfold bG at *
 cases t<;>simp only[]at h ⊢<;>try (first|exact h|cases h)
 rename_i b off len n'
 cases hb:H[b]? with
 | none=>simp[hb]at h
 | some x=>rw[hb]at h;rw[mQ hb];exact h
theorem uA {b:Bo}{v:T}{H':af}(hk:rL b=.read)(h:au R H b=some (v,H')):H'=H∧∀l,au R (H++l) b=some (v,H++l):=by
 cases b<;>simp only[rL]at hk<;>(try (cases hk;done))<;>simp only[au]at h ⊢
 case nH=>split at hk<;>cases hk
 case AO x =>
  cases he:bG H 1 (x.ev R)with
  | none=>simp[he]at h
  | some es =>
   rw[he]at h
   refine⟨?_,fun l=>?_⟩
   ·dsimp only at h;split at h
    ·cases h
    ·simp only[Option.map_eq_some_iff,Prod.mk.injEq]at h;obtain⟨_,_,_,e⟩:=h;exact e.symm
   ·rw[xO l he]
    dsimp only at h ⊢;split at h
    ·cases h
    ·simp only[Option.map_eq_some_iff,Prod.mk.injEq]at h ⊢
     obtain⟨a,h1,h2,_⟩:=h
     rename_i bF
     exact⟨a,h1,h2,trivial⟩
 case len k x =>
  simp only[Option.map_eq_some_iff,Prod.mk.injEq]at h ⊢
  obtain⟨a,h1,h2,h3⟩:=h
  exact⟨h3.symm,fun l=>⟨a,EM l h1,h2,trivial⟩⟩
 case ld n ag x =>
  cases he:nu H n (x.ev R)with
  | none=>simp[he]at h
  | some cs =>
   simp only[he,Option.map_eq_some_iff,Prod.mk.injEq]at h
   obtain⟨a,h1,h2,h3⟩:=h
   exact⟨h3.symm,fun l=>by simp[KD l he,h1,h2]⟩
 case om kt z ok m k =>
  split at h
  ·rename_i hh
   simp only[hh,if_true]
   cases he:ik H (m.ev R)with
   | none=>simp[he]at h
   | some es =>
    simp only[he]at h
    simp only[CL _ he]
    split at h
    ·split at h
     ·cases h;exact⟨rfl,fun l=>rfl⟩
     ·cases h
    ·cases h;exact⟨rfl,fun l=>rfl⟩
    ·cases h
  ·cases h
end
theorem xP:∀(l:List Oper) (acc:List Nat),∃rest,fq l acc=acc++rest∧rest.length=l.length
 | [],acc=>⟨[],by simp[fq],rfl⟩
 | o :: l,acc=>by
  obtain⟨r,h,hl⟩:=xP l (acc++[kO acc o])
  exact⟨kO acc o :: r,by simp[fq,h],by simp[hl]⟩
theorem xQ:∀(l:List Oper) (acc:List Nat) (k:Nat) (o:Oper),l[k]?=some o→(fq l acc)[acc.length+k]?=some (kO ((fq l acc).take (acc.length+k)) o)
 | [],_,_,_,h=>by simp at h
 | x :: l,acc,0,o,h=>by
  simp at h;subst h
  obtain⟨r,h,_⟩:=xP l (acc++[kO acc x])
  simp[fq,h]
 | x :: l,acc,k+1,o,h=>by
  have:=xQ l (acc++[kO acc x]) k o (by simpa using h)
  simp only[List.length_append,List.length_singleton]at this
  simp only[fq]
  rw[show acc.length+(k+1)=acc.length+1+k by omega]
  exact this
theorem uB (acc:List Nat)(t:Nat):∀(l:List Nat) (s:Nat),(l.foldl (fun s j=>s ||| 2^j ||| acc.getD j 0) s).testBit t=true→s.testBit t=true∨∃j∈l,t=j∨(acc.getD j 0).testBit t=true
 | [],s,h=>.inl h
 | x :: l,s,h=>by
  rcases uB acc t l _ h with h|⟨j,hj,h⟩
  ·simp only[Nat.testBit_or,Bool.or_eq_true,Nat.testBit_two_pow,decide_eq_true_eq]at h
   rcases h with(h|h)|h
   ·exact .inl h
   ·exact .inr ⟨x,by simp,.inl h.symm⟩
   ·exact .inr ⟨x,by simp,.inr h⟩
  ·exact .inr ⟨j,by simp[hj],h⟩
theorem xR {acc:List Nat}{o:Oper}{t:Nat}(h:(kO acc o).testBit t=true):∃j∈cJ o,t=j∨(acc.getD j 0).testBit t=true:=by
 rcases uB acc t _ _ h with h|h
 ·simp at h
 ·exact h
theorem xS {ops:Array Oper}{D:Nat→Prop}(hD:∀i o,ops[i]?=some o→D i→∀j∈cJ o,j<i∧D j) :
  ∀(i:Nat) (o:Oper) (t:Nat),ops[i]?=some o→(∀j∈cJ o,j<i∧D j)→((fq ops.toList []).getD i 0).testBit t=true→D t:=by
 intro i
 induction i using Nat.strongRecOn with
 | _ i ih =>
  intro o t ho hp hb
  have h1:=xQ ops.toList [] i o (by simpa using ho)
  simp only[List.length_nil,Nat.zero_add]at h1
  rw[List.getD_eq_getElem?_getD,h1,Option.getD_some]at hb
  obtain⟨j,hj,h⟩:=xR hb
  obtain⟨aq,hDj⟩:=hp j hj
  rcases h with rfl|h
  ·exact hDj
  ·rw[List.getD_eq_getElem?_getD,List.getElem?_take,if_pos aq,←List.getD_eq_getElem?_getD]at h
   have mc:i<ops.size:=(Array.getElem?_eq_some_iff.1 ho).1
   have hoj:ops[j]?=some ops[j]:=Array.getElem?_eq_getElem (Nat.lt_trans aq mc)
   exact ih j aq ops[j] t hoj (fun k hk=>hD j _ hoj hDj k hk) h
def Fw (r:Option Nat):Fence:={ fn:=fun _=>True,depth:=none,alive:=false,round:=r }
theorem xU {r r':Option Nat}{n:Nat}{P:Program}{f:FuncId}{args:Array Value}{w:World}{K:Ending→World→Prop}(h:CallsIn (Fw r) n P f args w K):CallsIn (Fw r') n P f args w K:=h
section
variable {P:Program} {w0 w:World} {g:Ctx} {H H':af} {R:ax} {a:Act} {n:Nat} {ops:Array Oper}
theorem bB {mu:Bool}{o:Oper}{st:List Rd}{y:O}(h:gn P n ops mu o st=some y):∃op gd,bX P mu o.op=some op∧uy ops o.guard=some gd∧y=⟨o.dst,op,gd,st⟩ ∧
  (∀t∈tmpsOf o op gd,t<n)∧∀d,o.dst=some d→d<n:=by
 unfold gn at h
 cases h1:bX P mu o.op with
 | none=>simp[h1]at h
 | some op=>cases h2:uy ops o.guard with
  | none=>simp[h1,h2]at h
  | some gd =>
   simp only[h1,h2]at h
   split at h
   ·rename_i hh
    simp only[Bool.and_eq_true,List.all_eq_true,decide_eq_true_eq]at hh
    exact⟨op,gd,rfl,rfl,(Option.some.inj h).symm,hh.1,fun d hd=>by have:=hh.2;simp[hd]at this;exact this⟩
   ·cases h
def iB (g:Ctx)(w:World)(R:ax)(a:Act)(ts:List Nat):Prop:=∀t∈ts,VR g w (R t) (a.tmps.getD t undef)
theorem iB.sub {ts Od:List Nat}(h:iB g w R a ts)(hs:∀t∈Od,t∈ts):iB g w R a Od:=fun t ht=>h t (hs t ht)
theorem uC {l:List Operand}(h:iB g w R a (fx l)):RV g w R a.eval l:=by
 intro x hx y hy
 cases x with
 | tmp t=>simp only[aS,Option.some.injEq]at hy;subst hy;exact h t (by simp only[fx,List.mem_filterMap];exact⟨_,hx,rfl⟩)
 | const v =>
  simp only[aS,Option.map_eq_some_iff]at hy
  obtain⟨t,h1,rfl⟩:=hy
  exact mN h1
 | «global» x=>simp[aS]at hy
 | func f=>simp only[aS,Option.some.injEq]at hy;subst hy;exact .fn rfl (by simp)
theorem pL {o:Oper}{gd:Gd}(hg:uy ops o.guard=some gd)(hn:a.tmps.size=n)(hd:∀t∈nz gd,t<n)(h:iB g w R a (nz gd)):Region.wanted o (yielded ops a.tmps)=bV R gd:=by
 unfold Region.wanted
 cases ho:o.guard with
 | none=>rw[ho]at hg;simp only[uy,Option.some.injEq]at hg;subst hg;rfl
 | some p =>
  obtain⟨j,b⟩:=p
  rw[ho]at hg
  simp only[uy]at hg
  cases iC:(ops[j]?).bind (·.dst)with
  | none=>simp[iC]at hg
  | some d =>
   simp only[iC,Option.some.injEq]at hg;subst hg
   have hv:=h d (by simp[nz])
   have aq:d<a.tmps.size:=by rw[hn];exact hd d (by simp[nz])
   simp only[yielded,iC,Option.bind_some,bV]
   rw[Array.getD_eq_getD_getElem?,Array.getElem?_eq_getElem aq,Option.getD_some]at hv
   rw[Array.getElem?_eq_getElem aq]
   generalize R d=t at *
   generalize a.tmps[d]=v at *
   cases hv<;>simp
theorem iJ {mu:Bool}{o:Op}{op:MC}(h:bX P mu o=some op):∀c,o≠.defer c:=by
 rintro c rfl;simp[bX,bO]at h
theorem jZ {mu:Bool}{o:Op}{b:Bo}(h:bX P mu o=some (.b b)):bO P mu o=some b:=by
 unfold bX at h
 split at h
 ·split at h
  ·simp only[Option.map_eq_some_iff]at h;obtain⟨_,_,h⟩:=h;cases h
  ·split at h
   ·rename_i h1 h2
    cases h
    simp only[bO,h1,h2]
   ·cases h
 ·simp only[Option.map_eq_some_iff]at h;obtain⟨_,_,h⟩:=h;cases h
 ·simp only[Option.map_eq_some_iff]at h;obtain⟨x,h1,h⟩:=h;cases h;exact h1
theorem EN {r:Option Nat}{mu:Bool}{o:Oper}{b:Bo}{t:T}(hc:bX P mu o.op=some (.b b))(h:SR w0 g H w)(hr:iB g w R a (fx o.op.operands.toList))(he:au R H b=some (t,H')) :
  ∃v w' g',(∀(K:Act→World→Prop) (Q:Exit→Act→World→Prop),K (a.put o.dst v) w'→o.wpIn (Fw r) 0 P a w K Q)∧Le g w g' w'∧SR w0 g' H' w'∧VR g' w' t v∧Fr g H g' H':=by
 obtain⟨nx,v,w',g',h1,h2,h3⟩:=OK (fun _=>rfl) (jZ hc) h (uC hr) he
 refine⟨v,w',g',fun K Q hk=>⟨fun _ _=>trivial,?_⟩,h3⟩
 rw[Oper.semAt_eq _ _ _ (iJ hc),h1]
 rcases h2 with rfl|⟨rfl,rfl⟩
 ·exact hk
 ·exact hk
theorem zP {mu:Bool}{o:Op}{x:X}(h:bO P mu o=some (.qM x)):∃it,o=.next it false∧aS it=some x:=by
 cases o
 case next it str =>
  cases str<;>simp only[bO]at h<;>(try (cases h;done))
  simp only[Option.map_eq_some_iff,Bo.qM.injEq]at h
  obtain⟨y,h1,rfl⟩:=h
  exact⟨it,rfl,h1⟩
 case range ty m =>
  simp only[bO]at h
  split at h
  ·simp only[Option.map_eq_some_iff]at h;obtain⟨_,_,h⟩:=h;cases h
  ·cases h
 case makeMap ty r =>
  cases r<;>simp only[bO]at h<;>cases h
 case makeFunc fn first lR =>
  cases fn<;>simp only[bO]at h<;>(try (cases h;done))
  split at h
  ·simp only[Option.map_eq_some_iff]at h;obtain⟨_,_,h⟩:=h;cases h
  ·cases h
 case call c =>
  obtain⟨callee,args,jy⟩:=c
  cases callee
  case value x =>
   cases x<;>simp only[bO]at h<;>(try (cases h;done))
   split at h<;>cases h
  case builtin b =>
   simp only[bO,Option.bind_eq_some_iff]at h
   obtain⟨l,_,h⟩:=h
   unfold jY at h
   split at h
   ·have hz:∀tl l b',xK P tl l=some b'→b'≠.qM x:=by
     rintro tl l b' hb rfl
     simp only[xK]at hb
     (repeat' split at hb)<;>first|(cases hb;done)|(simp at hb;done)
    split at h
    ·rename_i b' hb;exact absurd (Option.some.inj h) (hz _ _ _ hb)
    ·simp only[mO]at h
     (repeat' split at h)<;>first|(cases h;done)|(simp at h;done)
   all_goals ((repeat' split at h)<;>first|(cases h;done)|(simp at h;done))
  all_goals (simp only[bO]at h;cases h)
 all_goals simp only[bO]at h
 all_goals first|(cases h;done)|(simp only[Option.map_eq_some_iff]at h;obtain⟨_,_,h⟩:=h;cases h;done)|skip
 all_goals (try simp only[Option.bind_eq_some_iff]at h)
 all_goals (try (obtain⟨_,_,h⟩:=h))
 all_goals (try simp only[EF,uu,ur,nP,zJ,pE,pF,CG,CH,zK]at h)
 all_goals first|((repeat' split at h)<;>first|(cases h;done)|(simp at h;done))|skip
theorem EO {r:Option Nat}{mu:Bool}{o:Oper}{x:X}{b bi:Nat}{es:List (T×T)}{ix:List Nat}{cur:Option Nat}(hc:bX P mu o.op=some (.b (.qM x)))(h:SR w0 g H w)(hr:iB g w R a (fx o.op.operands.toList))
  (hx:x.ev R=.ptr bi 0) (hb:H[b]?=some (.da es ix bi cur)) :
  ∃t H' v w' g',ov H b bi es ix t H'∧(∀(K:Act→World→Prop) (Q:Exit→Act→World→Prop),K (a.put o.dst v) w'→o.wpIn (Fw r) 0 P a w K Q)∧Le g w g' w'∧SR w0 g' H' w'∧VR g' w' t v∧Fr g H g' H':=by
 have fH:=iJ hc
 obtain⟨it,ho,h1⟩:=zP (jZ hc)
 have hv:=uC hr it (by rw[ho];simp[Op.operands]) x h1
 rw[hx]at hv
 obtain⟨t,H',hn,v,w',g',cF,h3⟩:=Ko (P:=P) (ty:=o.type) h hv hb
 refine⟨t,H',v,w',g',hn,fun K Q hk=>⟨fun _ _=>trivial,?_⟩,h3⟩
 rw[Oper.semAt_eq _ _ _ fH]
 have e:(execOp a.eval o).run P w=.ok (.value v) w':=by
  obtain⟨dst,op,ty,pos,after,guard⟩:=o
  simp only at ho;subst ho
  simp[execOp,cF]
 rw[e]
 exact hk
theorem kR {f:FuncId}{args:Array Value}(hf:dS P f=true):(callFunc f args).run P w=.ok (.enter f args) w:=by
 unfold dS at hf
 cases h:P.funcs[f]? with
 | none=>simp[h]at hf
 | some fn =>
  simp only[h,Bool.and_eq_true,bne_iff_ne,ne_eq]at hf
  obtain⟨c,hb⟩:=Option.isSome_iff_exists.1 hf.2
  simp[callFunc,h,hf.1,hb]
def zQ (r:Option Nat)(P:Program)(o:Oper)(a:Act)(K:Act→World→Prop):Ending→World→Prop:=fun e w'=>∃v,e=.returned v∧K (a.put o.dst v) w'
theorem upon_enter {r:Option Nat}{o:Oper}{f:FuncId}{args:Array Value}{K:Act→World→Prop}{Q:Exit→Act→World→Prop}(h:CallsIn (Fw none) 0 P f args w (zQ r P o a K)) :
  o.uponIn (Fw r) 0 P a K Q (.ok (.enter f args) w):=by
 rw[Oper.uponIn_enter]
 refine⟨fun h=>by simp[Fw]at h,(xU h).mono fun e w' he=>?_⟩
 obtain⟨v,rfl,hk⟩:=he
 exact hk
theorem vK {mu:Bool}{op:Op}{f:Nat}{as:List X}(h:bX P mu op=some (.call f as)) :
  ∃args jy,op=.call { callee:=.value (.func f),args:=args,argTypes:=jy }∧dS P f=true∧gx args.toList=some as:=by
 cases op
 case call c =>
  obtain⟨callee,args,jy⟩:=c
  cases callee
  case value x =>
   cases x
   case func f' =>
    simp only[bX]at h
    split at h
    ·rename_i hc
     simp only[Option.map_eq_some_iff]at h
     obtain⟨TN,h1,h2⟩:=h
     cases h2
     exact⟨args,jy,rfl,hc,h1⟩
    ·split at h<;>cases h
   all_goals simp[bX,bO]at h
  all_goals (simp only[bX,Option.map_eq_some_iff]at h;obtain⟨_,_,h⟩:=h;cases h)
 all_goals (simp only[bX,Option.map_eq_some_iff]at h;obtain⟨_,_,h⟩:=h;cases h)
theorem nA {mu:Bool}{op:Op}{x:X}{as:List X}(h:bX P mu op=some (.bJ x as)) :
  ∃t args jy,x=.r t∧op=.call { callee:=.value (.tmp t),args:=args,argTypes:=jy }∧gx args.toList=some as:=by
 cases op
 case call c =>
  obtain⟨callee,args,jy⟩:=c
  cases callee
  case value x =>
   cases x
   case tmp t =>
    simp only[bX,Option.map_eq_some_iff]at h
    obtain⟨TN,h1,h2⟩:=h
    cases h2
    exact⟨t,args,jy,rfl,rfl,h1⟩
   case func f' =>
    simp only[bX]at h
    split at h
    ·simp only[Option.map_eq_some_iff]at h
     obtain⟨TN,h1,h2⟩:=h
     cases h2
    ·split at h<;>cases h
   all_goals simp[bX,bO]at h
  all_goals (simp only[bX,Option.map_eq_some_iff]at h;obtain⟨_,_,h⟩:=h;cases h)
 all_goals (simp only[bX,Option.map_eq_some_iff]at h;obtain⟨_,_,h⟩:=h;cases h)
theorem CM {r:Option Nat}{mu:Bool}{o:Oper}{f:Nat}{as:List X}(hc:bX P mu o.op=some (.call f as))(hr:iB g w R a (fx o.op.operands.toList)) :
  ∃args:List Value,bL g w (as.map (X.ev R)) args ∧
   ∀(K:Act→World→Prop) (Q:Exit→Act→World→Prop),dS P f=true→CallsIn (Fw none) 0 P f args.toArray w (zQ r P o a K)→o.wpIn (Fw r) 0 P a w K Q:=by
 have fH:=iJ hc
 obtain⟨args,jy,ho,kS,h1⟩:=vK hc
 have hv:=gy (ρ:=a.eval) args.toList as h1 (uC (hr.sub fun t ht=>by
  simp only[fx,List.mem_filterMap]at ht ⊢
  obtain⟨x,hx,e⟩:=ht
  exact⟨x,by rw[ho];simp only[Op.operands,Call.operands];simp at hx;simp[hx],e⟩))
 refine⟨args.toList.map a.eval,hv,fun K Q _ hk=>⟨fun _ _=>trivial,?_⟩⟩
 rw[Oper.semAt_eq _ _ _ fH]
 have cF:(execOp a.eval o).run P w=.ok (.enter f (args.toList.map a.eval).toArray) w:=by
  have:=kR (P:=P) (w:=w) (args:=(args.toList.map a.eval).toArray) kS
  have e2:(args.toList.map a.eval).toArray=args.map a.eval:=by rw[←Array.toList_map]
  rw[e2]at this ⊢
  simp only[execOp,ho,resolve,Act.eval,Deferred.ofValue,invoke]
  simpa using this
 rw[cF]
 exact upon_enter hk
theorem zR {r:Option Nat}{mu:Bool}{o:Oper}{x:X}{f:Nat}{cs:List T}{as:List X}(hc:bX P mu o.op=some (.bJ x as))(hr:iB g w R a (fx o.op.operands.toList))(hx:x.ev R=.fn f cs) :
  ∃args:List Value,bL g w (as.map (X.ev R)++cs) args ∧
   ∀(K:Act→World→Prop) (Q:Exit→Act→World→Prop),dS P f=true→CallsIn (Fw none) 0 P f args.toArray w (zQ r P o a K)→o.wpIn (Fw r) 0 P a w K Q:=by
 have fH:=iJ hc
 obtain⟨t,args,jy,rfl,ho,h1⟩:=nA hc
 have hv:=gy (ρ:=a.eval) args.toList as h1 (uC (hr.sub fun t ht=>by
  simp only[fx,List.mem_filterMap]at ht ⊢
  obtain⟨x,hx,e⟩:=ht
  exact⟨x,by rw[ho];simp only[Op.operands,Call.operands];simp at hx;simp[hx],e⟩))
 have hf:=hr t (by rw[ho];simp only[fx,List.mem_filterMap];exact⟨.tmp t,by simp[Op.operands,Call.operands],rfl⟩)
 simp only[X.ev]at hx
 rw[hx]at hf
 generalize Bb:a.tmps.getD t undef=vf at hf
 cases hf with
 | @fn _ _ vs hl tH =>
  refine⟨args.toList.map a.eval++vs.toList,hv.append ⟨by simp[hl],fun i t v ha hb=>tH i t v ha (by simpa using hb)⟩,fun K Q kS hk=>⟨fun _ _=>trivial,?_⟩⟩
  rw[Oper.semAt_eq _ _ _ fH]
  have cF:(execOp a.eval o).run P w=.ok (.enter f (args.toList.map a.eval++vs.toList).toArray) w:=by
   have:=kR (P:=P) (w:=w) (args:=(args.toList.map a.eval++vs.toList).toArray) kS
   have e2:(args.toList.map a.eval++vs.toList).toArray=args.map a.eval++vs:=by rw[←Array.toList_map];simp
   rw[e2]at this ⊢
   have e:a.eval (.tmp t)=.func (.func f) #[] vs:=Bb
   simp only[execOp,ho,resolve,e,Deferred.ofValue,invoke]
   simpa using this
  rw[cF]
  exact upon_enter hk
end
def nB:T→Option Nat
 | .ptr b _ | .map b=>some b
 | _=>none
def kT (R:ax)(y:It):Option Nat:=match y.o.d,y.o.op with
 | some d,.b (.alloc _)=>nB (R d)
 | some d,.b .AP=>nB (R d)
 | _,_=>none
def tN (g:Ctx)(N:Nat)(R:ax)(H:af)(y:It):Prop :=
 (bV R y.o.g=false∧∀d,y.o.d=some d→R d=cf) ∨
 (bV R y.o.g=true∧∃d b,y.o.d=some d∧y.o.op=.b b∧(
  ((rL b=.pure∨rL b=.read)∧au R H b=some (R d,H)) ∨
  (∃k z,b=.alloc z∧R d=.ptr k 0∧H[k]?=some (.cells z)∧g.φ k=none∧N≤k) ∨
  (∃k,b=.AP∧R d=.map k∧H[k]?=some (.map [])∧g.φ k=none∧N≤k)))
theorem tN.mono {g g':Ctx}{N:Nat}{R R':ax}{H H':af}{y:It}(h:tN g N R H y)(hg:∀t∈nz y.o.g,R' t=R t)(hr:∀t∈Bc y.o.op,R' t=R t)(hd:∀d,y.o.d=some d→R' d=R d)
  (TO:∀d b,bV R y.o.g=true→y.o.d=some d→y.o.op=.b b→rL b=.read→au R H b=some (R d,H)→au R H' b=some (R d,H'))
  (xi:∀k x,kT R y=some k→H[k]?=some x→(∀e,x≠.tok e)→g.φ k=none→N≤k→H'[k]?=some x∧g'.φ k=none):tN g' N R' H' y:=by
 have hw:bV R' y.o.g=bV R y.o.g:=me hg
 rcases h with⟨h1,h2⟩|⟨h1,d,b,h2,h3,h4⟩
 ·exact .inl ⟨hw▸h1,fun d e=>by rw[hd d e];exact h2 d e⟩
 ·refine .inr ⟨hw▸h1,d,b,h2,h3,?_⟩
  rw[hd d h2]
  rw[h3]at hr
  rcases h4 with⟨hk,he⟩|⟨k,z,rfl,e1,e2,e3,e4⟩|⟨k,rfl,e1,e2,e3,e4⟩
  ·refine .inl ⟨hk,?_⟩
   rw[rN (R:=R') (R':=R) hr]
   rcases hk with hk|hk
   ·exact(uz hk he).2 H'
   ·exact TO d b h1 h2 h3 hk he
  ·have hm:=xi k _ (by simp[kT,h2,h3,e1,nB]) e2 (by simp) e3 e4
   exact .inr (.inl ⟨k,z,rfl,e1,hm.1,hm.2,e4⟩)
  ·have hm:=xi k _ (by simp[kT,h2,h3,e1,nB]) e2 (by simp) e3 e4
   exact .inr (.inr ⟨k,rfl,e1,hm.1,hm.2,e4⟩)
theorem rO (a:Act)(d:Option Nat)(v:Value)(t:Nat)(hd:∀e,d=some e→e<a.tmps.size):(a.put d v).tmps.getD t undef=if d=some t then v else a.tmps.getD t undef:=by
 cases d with
 | none=>simp[Act.put]
 | some d =>
  have aq:=hd d rfl
  simp only[Act.put]
  by_cases e:d=t
  ·subst e;simp[Array.getD_eq_getD_getElem?,aq]
  ·rw[if_neg (by simpa using e),Array.getD_eq_getD_getElem?,Array.getD_eq_getD_getElem?,Array.getElem?_setIfInBounds_ne e]
theorem rP (a:Act)(d:Option Nat)(v:Value):(a.put d v).tmps.size=a.tmps.size:=by cases d<;>simp[Act.put]
theorem jJ (a:Act)(d:Option Nat)(v:Value):(a.put d v).defers=a.defers:=by cases d<;>simp[Act.put]
theorem cK {R:ax}{d:Option Nat}{v:T}{t:Nat}(h:d≠some t):bR R d v t=R t:=by
 cases d with
 | none=>rfl
 | some d=>simp only[bR,pj];rw[if_neg];rintro rfl;exact h rfl
theorem jB {R:ax}{v:T}{t:Nat}:bR R (some t) v t=v:=by simp[bR,pj]
theorem SR.Zv {w0 w:World}{g:Ctx}{H:af}(h:SR w0 g H w){x:B}(hx:(∃cs,x=.cells cs)∨∃es,x=.map es):SR w0 g (H++[x]) w:=by
 refine⟨h.size,h.kC,h.Cv,h.fresh,fun b y hy=>by have:=h.tF b y hy;simp;omega,fun t e y hy=>by have:=h.jH t e y hy;simp;omega,fun b y hy=>?_,h.qN,h.env⟩
 by_cases hb:b=H.length
 ·subst hb
  rw[fS]at hy
  have hn:=h.J0 (b:=H.length) (Nat.le_refl _)
  cases hy
  rcases hx with⟨cs,rfl⟩|⟨es,rfl⟩<;>intro r o q hq<;>rw[hn]at hq<;>cases hq
 ·exact h.eG b y (dh hb hy)
theorem SR.drew {w0 w w':World}{g:Ctx}{H:af}(h:SR w0 g H w)(tr:Tr w w' iu jz)(hz:w'.heap.size=w.heap.size):SR w0 g H w'∧Le g w g w':=by
 have le:Le g w g w':=Le.iR tr (fun _ _ h=>h) (fun _ _ h=>h) (fun _ _ _ h=>h) (fun _ _ hs=>hs.elim)
 refine⟨?_,le⟩
 exact h.step (fun _=>False) tr le (fun _ _ hs=>hs.elim) (fun _ hm=>hm.elim) (fun r o hr=>h.fresh r o (by omega)) h.tF h.jH (fun _ _ _=>rfl) (fun _ _ _ _=>⟨id,id⟩) (fun _ _ _ _=>rfl) (fun b x hx=>.inl ⟨id,hx⟩)
section
variable {P:Program} {w0 w:World} {g:Ctx} {H:af} {a:Act}
theorem xV {r:Option Nat}{mu:Bool}{o:Oper}{z:List T}{k:Nat}(hm:zN o.op=true)(hc:bX P mu o.op=some (.b (.alloc z)))(h:SR w0 g H w)(hk:H[k]?=some (.cells z))(hn:g.φ k=none) :
  ∃v w' g',(∀(K:Act→World→Prop) (Q:Exit→Act→World→Prop),K (a.put o.dst v) w'→o.wpIn (Fw r) 0 P a w K Q)∧Le g w g' w'∧SR w0 g' H w'∧VR g' w' (.ptr k 0) v∧∀b,g.φ b=none→b≠k→g'.φ b=none:=by
 obtain⟨dst,op,ty,pos,after,guard⟩:=o
 simp only at hm hc
 have hc:=jZ hc
 unfold zN at hm
 split at hm
 ·rename_i t _
  simp only[bO,Option.map_eq_some_iff]at hc
  obtain⟨z',h1,h2⟩:=hc
  cases h2
  obtain⟨i,zv,h2,h3,h4⟩:=gz h1
  obtain⟨hv,ho⟩:=dZ (g:=g) (w:=w) _ _ h4
  have tr:Tr w w iu jz:=Tr.refl w
  obtain⟨le,sr,fr⟩:=h.mut (c:=zv.cells) (ty:=t) (H':=H) (b:=k) tr rfl hk hn (fun b' x _ hx=>.inl hx) (Nat.le_refl _) (fun b' x hx _ _ _=>hx) (by simpa using hv.Oo ho)
  refine⟨.pointer (some ⟨w.heap.size,0,none⟩),_,_,fun K Q hk=>⟨fun _ _=>trivial,?_⟩,le,sr,.ptr (r:=w.heap.size) (o:=0) (q:=zv.cells.size) (by simp[Ctx.at]),fun b hb bF=>by simp only[Ctx.at,Ctx.row];rw[if_neg bF];exact hb⟩
  rw[Oper.semAt_eq _ _ _ (by rintro c⟨⟩)]
  have cF:(execOp a.eval ⟨dst,.alloc t,ty,pos,after,guard⟩).run P w=.ok (.value (.pointer (some ⟨w.heap.size,0,none⟩))) (w.alloc (.cells zv.cells t)):=by
   simp[execOp,Instr.alloc,zeroValue,bu h2,h3,newVar,newRow]
  rw[cF]
  exact hk
 ·simp[bO]at hc
 ·cases hm
theorem CN {r:Option Nat}{mu:Bool}{o:Oper}{k:Nat}(hm:zN o.op=true)(hc:bX P mu o.op=some (.b .AP))(h:SR w0 g H w)(hk:H[k]?=some (.map []))(hn:g.φ k=none) :
  ∃v w' g',(∀(K:Act→World→Prop) (Q:Exit→Act→World→Prop),K (a.put o.dst v) w'→o.wpIn (Fw r) 0 P a w K Q)∧Le g w g' w'∧SR w0 g' H w'∧VR g' w' (.map k) v∧∀b,g.φ b=none→b≠k→g'.φ b=none:=by
 obtain⟨dst,op,ty,pos,after,guard⟩:=o
 simp only at hm hc
 have hc:=jZ hc
 unfold zN at hm
 split at hm
 ·simp[bO]at hc
 ·rename_i t _
  obtain⟨le,sr⟩:=h.Er (H':=H) (b:=k) hk hn (fun b' x _ hx=>hx) (Nat.le_refl _)
  refine⟨.map (some w.heap.size),_,_,fun K Q hk=>⟨fun _ _=>trivial,?_⟩,le,sr,.map (r:=w.heap.size) (o:=0) (q:=0) (by simp[Ctx.at]),fun b hb bF=>by simp only[Ctx.at,Ctx.row];rw[if_neg bF];exact hb⟩
  rw[Oper.semAt_eq _ _ _ (by rintro c⟨⟩)]
  have cF:(execOp a.eval ⟨dst,.makeMap t none,ty,pos,after,guard⟩).run P w=.ok (.value (.map (some w.heap.size))) (w.alloc (.map #[] 0)):=by
   simp[execOp,Instr.makeMap]
  rw[cF]
  exact hk
 ·cases hm
end
theorem Fr.ext (g:Ctx)(H l:af):Fr g H g (H++l):=⟨by simp,fun b x hx _ hn=>⟨mQ hx,hn⟩⟩
structure Dr (P:Program)(n:Nat)(ops:Array Oper)(mu:Nat→Bool)(w0:World)(df:List Deferred)(mk:T)(g0:Ctx)(ws:World)(H0:af)
  (pre:List It) (L:Array Bool) (g:Ctx) (R:ax) (H:af) (a:Act) (w:World):Prop where
 zS:L.size=ops.size
 cmp:∀y∈pre,∃o,ops[y.i]?=some o∧(∃st,gn P n ops (mu y.i) o st=some y.o)∧y.ts=tmpsOf o y.o.op y.o.g
 rd:∀y∈pre,∀z∈pre,z.early=true→∀d,z.o.d=some d→d∈y.ts→((fq ops.toList []).getD y.i 0).testBit z.i=true
 dd:∀y∈pre,∀z∈pre,∀d,y.o.d=some d→z.o.d=some d→y.i=z.i
 kl:∀y∈pre,y.early=true→∀o,ops[y.i]?=some o→Jl y.o=.make→zN o.op=true
 uniq:∀y∈pre,∀z∈pre,y.i=z.i→y=z
 tO:∀y∈pre,∀o,ops[y.i]?=some o→∀j∈cJ o,j<y.i
 closed:∀i o,ops[i]?=some o→L.getD i false=true→∀j∈cJ o,j<i∧L.getD j false=true
 sub:∀i,L.getD i false=true→∃y∈pre,y.i=i
 rQ:∀y∈pre,y.early=false→L.getD y.i false=true
 sr:SR w0 g H w
 le:Le g0 ws g w
 fr:Fr g0 H0 g H
 xj:a.tmps.size=n
 vL:∀t,t<n→(∀y∈pre,L.getD y.i false=false→y.o.d≠some t)→VR g w (R t) (a.tmps.getD t undef)
 gk:∀y∈pre,L.getD y.i false=false→tN g H0.length R H y
 inj:∀y∈pre,∀z∈pre,L.getD y.i false=false→L.getD z.i false=false→y.i≠z.i→∀k,kT R y=some k→kT R z≠some k
 ML:a.defers=df
 MM:R n=mk
section
variable {P:Program} {n:Nat} {ops:Array Oper} {mu:Nat→Bool} {w0 w ws:World} {df:List Deferred} {mk:T} {g g0:Ctx} {H H0 H':af} {pre:List It} {L:Array Bool} {R:ax} {a:Act} {r:Option Nat}
theorem mR {i:Nat}(h:i∈Region.ready .any ops L):L.getD i false=false∧∃o,ops[i]?=some o∧∀j∈cJ o,L.getD j false=true:=by
 obtain⟨h1,o,h2,h3⟩:=mem_ready.1 h
 refine⟨?_,o,h2,fun j hj=>?_⟩
 ·cases hi:L[i]? with
  | none=>simp[Array.getD_eq_getD_getElem?,hi]at h1
  | some b=>simp[Array.getD_eq_getD_getElem?,hi]at h1 ⊢;exact h1
 ·simp only[cJ,List.mem_map,List.mem_filter]at hj
  obtain⟨e,⟨he,hb⟩,rfl⟩:=hj
  exact h3 e (by simpa using he) hb
theorem Dr.bit (h:Dr P n ops mu w0 df mk g0 ws H0 pre L g R H a w){i:Nat}{o:Oper}{t:Nat}(ho:ops[i]?=some o)(hp:∀j∈cJ o,j<i∧L.getD j false=true)
  (hb:((fq ops.toList []).getD i 0).testBit t=true):L.getD t false=true :=
 xS (D:=fun i=>L.getD i false=true) h.closed i o t ho hp hb
theorem dU {i j:Nat}(hi:i<L.size):(L.setIfInBounds i true).getD j false=if i=j then true else L.getD j false:=by
 by_cases e:i=j
 ·subst e;simp[Array.getD_eq_getD_getElem?,hi]
 ·rw[if_neg e,Array.getD_eq_getD_getElem?,Array.getD_eq_getD_getElem?,Array.getElem?_setIfInBounds_ne e]
theorem iD {o:Oper}{y:It}(h:y.ts=tmpsOf o y.o.op y.o.g):(∀t∈nz y.o.g,t∈y.ts)∧(∀t∈Bc y.o.op,t∈y.ts)∧∀t∈fx o.op.operands.toList,t∈y.ts:=by
 rw[h];unfold tmpsOf
 exact⟨fun t ht=>by simp[ht],fun t ht=>by simp[ht],fun t ht=>by simp[ht]⟩
theorem Dr.look (h:Dr P n ops mu w0 df mk g0 ws H0 pre L g R H a w){i:Nat}{o:Oper}{ts:List Nat}(ho:ops[i]?=some o)(hp:∀j∈cJ o,j<i∧L.getD j false=true)(hn:∀t∈ts,t<n)
  (hz:∀z∈pre,z.early=true→∀d,z.o.d=some d→d∈ts→((fq ops.toList []).getD i 0).testBit z.i=true):iB g w R a ts:=by
 intro t ht
 refine h.vL t (hn t ht) fun z qR hu hd=>?_
 cases he:z.early with
 | false=>rw[h.rQ z qR he]at hu;cases hu
 | true=>rw[h.bit ho hp (hz z qR he t hd ht)]at hu;cases hu
theorem Dr.late (h:Dr P n ops mu w0 df mk g0 ws H0 pre L g R H a w){y:It}(hy:y∈pre)(hr:y.i∈Region.ready .any ops L) :
  ∃v w' g',(∀(K:Act→World→Prop) (Q:Exit→Act→World→Prop),K (a.put y.o.d v) w'→wpOpIn (Fw r) 0 P ops Q y.i K a w) ∧
   Dr P n ops mu w0 df mk g0 ws H0 pre (L.setIfInBounds y.i true) g' R H (a.put y.o.d v) w':=by
 obtain⟨OM,o,ho,pO⟩:=mR hr
 obtain⟨o',nL,⟨st,gl⟩,CO⟩:=h.cmp y hy
 rw[ho]at nL;cases nL
 obtain⟨op,gd,SF,hgd,ON,Zw,Jm⟩:=bB gl
 have hd:y.o.d=o.dst:=by rw[ON]
 have TP:y.o.op=op:=by rw[ON]
 have Zx:y.o.g=gd:=by rw[ON]
 obtain⟨ht1,Yd,ht3⟩:=iD CO
 have hp:∀j∈cJ o,j<y.i∧L.getD j false=true:=fun j hj=>⟨h.tO y hy o ho j hj,pO j hj⟩
 have qP:iB g w R a y.ts:=h.look ho hp (fun t ht=>Zw t (by rw[CO,TP,Zx]at ht;exact ht)) (h.rd y hy)
 have Ye:Region.wanted o (yielded ops a.tmps)=bV R y.o.g:=by
  rw[Zx];exact pL hgd h.xj (fun t ht=>Zw t (by simp[tmpsOf,ht])) (qP.sub (by rw[←Zx];exact ht1))
 have mc:y.i<L.size:=by rw[h.zS];exact(Array.getElem?_eq_some_iff.1 ho).1
 have Zy:∀e,y.o.d=some e→e<a.tmps.size:=fun e he=>by rw[h.xj];exact Jm e (hd▸he)
 have eJ:∀v w' g',Le g w g' w'→SR w0 g' H w'→(∀d,y.o.d=some d→VR g' w' (R d) v)→Fr g0 H0 g' H→(∀z∈pre,L.getD z.i false=false→z.i≠y.i→tN g' H0.length R H z) →
   Dr P n ops mu w0 df mk g0 ws H0 pre (L.setIfInBounds y.i true) g' R H (a.put y.o.d v) w':=by
  intro v w' g' le sr hv fr TQ
  refine { zS:=(by simp[h.zS]),cmp:=h.cmp,rd:=h.rd,dd:=h.dd,kl:=h.kl,uniq:=h.uniq,tO:=h.tO,closed:=?_,sub:=?_,rQ:=?_,sr:=sr,le:=h.le.trans le,fr:=fr,xj:=(by rw[rP];exact h.xj),vL:=?_,gk:=?_,inj:=?_,ML:=(by rw[jJ];exact h.ML),MM:=h.MM }
  ·intro i oi zT zU j hj
   rw[dU mc]at zU ⊢
   by_cases e:y.i=i
   ·subst e;rw[ho]at zT;cases zT
    obtain⟨h1,h2⟩:=hp j hj
    exact⟨h1,by split<;>simp[h2]⟩
   ·rw[if_neg e]at zU
    obtain⟨h1,h2⟩:=h.closed i oi zT zU j hj
    exact⟨h1,by split<;>simp[h2]⟩
  ·intro i zU
   rw[dU mc]at zU
   by_cases e:y.i=i
   ·exact⟨y,hy,e⟩
   ·rw[if_neg e]at zU;exact h.sub i zU
  ·intro z hz he
   rw[dU mc]
   split
   ·rfl
   ·exact h.rQ z hz he
  ·intro t ht fI
   rw[rO _ _ _ _ Zy]
   split
   ·rename_i e;exact hv t e
   ·rename_i e
    refine(h.vL t ht fun z hz hu qT=>?_).mono le
    by_cases ez:y.i=z.i
    ·rw[h.uniq y hy z hz ez]at e;exact e qT
    ·exact fI z hz (by rw[dU mc,if_neg ez];exact hu) qT
  ·intro z hz hu
   rw[dU mc]at hu
   by_cases ez:y.i=z.i
   ·rw[if_pos ez]at hu;cases hu
   ·rw[if_neg ez]at hu;exact TQ z hz hu (Ne.symm ez)
  ·intro z hz z' qR hu EP
   rw[dU mc]at hu EP
   by_cases ez:y.i=z.i
   ·rw[if_pos ez]at hu;cases hu
   ·by_cases ez':y.i=z'.i
    ·rw[if_pos ez']at EP;cases EP
    ·rw[if_neg ez]at hu;rw[if_neg ez']at EP;exact h.inj z hz z' qR hu EP
 have ER:∀g',Fr g H g' H→∀z∈pre,L.getD z.i false=false→z.i≠y.i→tN g' H0.length R H z:=fun g' fr z hz hu _ =>
  (h.gk z hz hu).mono (fun _ _=>rfl) (fun _ _=>rfl) (fun _ _=>rfl) (fun _ _ _ _ _ _ e=>e) (fun k x _ hx KE hn _=>fr.2 k x hx KE hn)
 rcases h.gk y hy OM with⟨hw,hu⟩|⟨hw,d,b,qt,kF,TR⟩
 ·refine⟨undef,w,g,fun K Q hk=>?_,eJ undef w g (.refl _ _) h.sr (fun d e=>by rw[hu d e];exact iU) h.fr (ER g (.refl _ _))⟩
  unfold wpOpIn
  simp only[ho,Ye,hw]
  rw[hd]at hk
  exact⟨fun _ _=>trivial,hk⟩
 ·have OO:bX P (mu y.i) o.op=some (.b b):=by rw[←kF,TP];exact SF
  rcases TR with⟨hk,he⟩|⟨k,z,rfl,e1,e2,e3,e4⟩|⟨k,rfl,e1,e2,e3,e4⟩
  ·obtain⟨v,w',g',hs,le,sr,hv,fr⟩:=EN (r:=r) OO h.sr (qP.sub ht3) he
   refine⟨v,w',g',fun K Q bT=>?_,eJ v w' g' le sr (fun d' e=>by rw[qt]at e;cases e;exact hv) (h.fr.trans fr) (ER g' fr)⟩
   unfold wpOpIn
   simp only[ho,Ye,hw,if_true]
   exact hs K Q (by rw[←hd];exact bT)
  ·-- a variable aeR kQ place
   have OP:y.early=true:=by cases he:y.early with|true=>rfl|false=>rw[h.rQ y hy he]at OM;cases OM
   have xi:=h.kl y hy OP o ho (by simp[Jl,kF,qt,rL])
   obtain⟨v,w',g',hs,le,sr,hv,hφ⟩:=xV (r:=r) (a:=a) xi OO h.sr e2 e3
   have Zz:kT R y=some k:=by simp[kT,qt,kF,e1,nB]
   refine⟨v,w',g',fun K Q bT=>?_,eJ v w' g' le sr (fun d' e=>by rw[qt]at e;cases e;rw[e1];exact hv) ⟨h.fr.1,fun b x hx KE hb=>?_⟩ fun z' qR EP bF=>?_⟩
   ·unfold wpOpIn
    simp only[ho,Ye,hw,if_true]
    exact hs K Q (by rw[←hd];exact bT)
   ·obtain⟨f1,f2⟩:=h.fr.2 b x hx KE hb
    exact⟨f1,hφ b f2 (by have:=(List.getElem?_eq_some_iff.1 hx).1;omega)⟩
   ·exact(h.gk z' qR EP).mono (fun _ _=>rfl) (fun _ _=>rfl) (fun _ _=>rfl) (fun _ _ _ _ _ _ e=>e) fun k' x rA hx _ hn _ =>
     ⟨hx,hφ k' hn (by rintro rfl;exact h.inj y hy z' qR OM EP (Ne.symm bF) k' Zz rA)⟩
  ·have OP:y.early=true:=by cases he:y.early with|true=>rfl|false=>rw[h.rQ y hy he]at OM;cases OM
   have xi:=h.kl y hy OP o ho (by simp[Jl,kF,qt,rL])
   obtain⟨v,w',g',hs,le,sr,hv,hφ⟩:=CN (r:=r) (a:=a) xi OO h.sr e2 e3
   have Zz:kT R y=some k:=by simp[kT,qt,kF,e1,nB]
   refine⟨v,w',g',fun K Q bT=>?_,eJ v w' g' le sr (fun d' e=>by rw[qt]at e;cases e;rw[e1];exact hv) ⟨h.fr.1,fun b x hx KE hb=>?_⟩ fun z' qR EP bF=>?_⟩
   ·unfold wpOpIn
    simp only[ho,Ye,hw,if_true]
    exact hs K Q (by rw[←hd];exact bT)
   ·obtain⟨f1,f2⟩:=h.fr.2 b x hx KE hb
    exact⟨f1,hφ b f2 (by have:=(List.getElem?_eq_some_iff.1 hx).1;omega)⟩
   ·exact(h.gk z' qR EP).mono (fun _ _=>rfl) (fun _ _=>rfl) (fun _ _=>rfl) (fun _ _ _ _ _ _ e=>e) fun k' x rA hx _ hn _ =>
     ⟨hx,hφ k' hn (by rintro rfl;exact h.inj y hy z' qR OM EP (Ne.symm bF) k' Zz rA)⟩
end
structure Hd (P:Program)(n:Nat)(ops:Array Oper)(mu:Nat→Bool)(pre:List It)(x:It)(o:Oper):Prop where
 ho:ops[x.i]?=some o
 co:gn P n ops (mu x.i) o x.o.Cm=some x.o
 ts:x.ts=tmpsOf o x.o.op x.o.g
 st:x.early=false→x.o.Cm=jI ((fq ops.toList []).getD x.i 0) pre
 pred:∀j∈cJ o,j<x.i∧∃z∈pre,z.i=j
 beh:∀z∈pre,z.early=true∨((fq ops.toList []).getD x.i 0).testBit z.i=true
 ne:∀z∈pre,z.i≠x.i
 dst:∀d,x.o.d=some d→(∀z∈pre,z.o.d≠some d∧(d∈z.ts→x.early=false∧((fq ops.toList []).getD x.i 0).testBit z.i=true))∧d∉x.ts
 ZA:∀z∈pre,∀d,z.o.d=some d→d∈x.ts→((fq ops.toList []).getD x.i 0).testBit z.i=true
 kl:x.early=true→Jl x.o≠.OL∧(Jl x.o=.make→zN o.op=true)
theorem CP {P:Program}{n:Nat}{ops:Array Oper}{mu:Nat→Bool}{pre:List It}{y:Nat×Bool}{x:It}(h:zO P n ops mu ((fq ops.toList []).getD y.1 0) pre y=some x):∃o,Hd P n ops mu pre x o:=by
 unfold zO at h
 generalize Ji:(fq ops.toList []).getD y.1 0=bs at h
 cases ho:ops[y.1]? with
 | none=>simp[ho]at h
 | some o =>
  rw[ho]at h;dsimp only at h
  cases hc:gn P n ops (mu y.1) o (if y.2=true then []else jI bs pre)with
  | none=>rw[hc]at h;cases h
  | some o' =>
   rw[hc]at h;dsimp only at h
   split at h
   ·rename_i hk
    cases h
    subst Ji
    have cW:o'.Cm=if y.2=true then []else jI ((fq ops.toList []).getD y.1 0) pre:=by
     obtain⟨op,gd,_,_,e,_⟩:=bB hc;rw[e]
    simp only[EL,Bool.and_eq_true,List.all_eq_true,decide_eq_true_eq,List.any_eq_true,beq_iff_eq,Bool.or_eq_true,bne_iff_ne,ne_eq,Bool.not_eq_true']at hk
    obtain⟨⟨⟨⟨⟨k1,k2⟩,k3⟩,k4⟩,k5⟩,k6⟩:=hk
    refine⟨o,ho,by rw[cW];exact hc,rfl,fun he=>by simp only at he;rw[cW,he];rfl,k1,k2,k3,fun d hd=>?_,fun z hz d hd ht=>?_,fun he=>?_⟩
    ·simp only at hd
     rw[hd]at k4
     simp only[List.all_eq_true,Bool.and_eq_true,bne_iff_ne,ne_eq,Bool.or_eq_true,Bool.not_eq_true',List.contains_eq_mem,decide_eq_false_iff_not,decide_eq_true_eq]at k4
     exact⟨fun z hz=>⟨(k4.1 z hz).1,fun ht=>((k4.1 z hz).2.resolve_left (fun hn=>hn ht))⟩,k4.2⟩
    ·have:=k5 z hz
     rw[hd]at this
     simp only[Bool.or_eq_true,Bool.not_eq_true',List.contains_eq_mem,decide_eq_false_iff_not]at this
     exact this.resolve_left (fun hn=>hn ht)
    ·rcases k6 with k6|k6
     ·have DQ:y.2=true:=he
      rw[DQ]at k6;cases k6
     ·exact⟨k6.1,fun hm=>k6.2.resolve_left (fun hn=>hn hm)⟩
   ·cases h
theorem kV {P:Program}{n:Nat}{ops:Array Oper}{mu:Nat→Bool}{pre:List It}{y:Nat×Bool}{ord:List (Nat×Bool)}{kQ:List It}(h:eC P n ops mu (fq ops.toList []) pre (y :: ord)=some kQ) :
  ∃x l o,kQ=x :: l∧Hd P n ops mu pre x o∧eC P n ops mu (fq ops.toList []) (pre++[x]) ord=some l:=by
 simp only[eC]at h
 split at h
 ·rename_i x hx
  simp only[Option.map_eq_some_iff]at h
  obtain⟨l,h1,rfl⟩:=h
  obtain⟨o,ho⟩:=CP hx
  exact⟨x,l,o,rfl,ho,h1⟩
 ·cases h
theorem dk {P:Program}{n:Nat}{ops:Array Oper}{mu:Nat→Bool}:∀(ord:List (Nat×Bool)) (pre kQ:List It),eC P n ops mu (fq ops.toList []) pre ord=some kQ→∀i,i<ops.size→∃y∈pre++kQ,y.i=i
 | [],pre,kQ,h,i,hi=>by
  simp only[eC]at h
  split at h
  ·rename_i hk
   cases h
   simp only[List.all_eq_true,List.mem_range,List.any_eq_true,beq_iff_eq]at hk
   simpa using hk i hi
  ·cases h
 | y :: ord,pre,kQ,h,i,hi=>by
  obtain⟨x,l,o,rfl,_,h2⟩:=kV h
  simpa using dk ord (pre++[x]) l h2 i hi
theorem dJ {P:Program}{n:Nat}{ops:Array Oper}{mu:Nat→Bool}:∀(ord:List (Nat×Bool)) (pre kQ:List It),eC P n ops mu (fq ops.toList []) pre ord=some kQ→∀y∈kQ,(∃o,ops[y.i]?=some o∧(∀j∈cJ o,j<y.i))∧∀z∈pre,z.early=true∨((fq ops.toList []).getD y.i 0).testBit z.i=true
 | [],pre,kQ,h,y,hy=>by
  simp only[eC]at h
  split at h
  ·cases h;cases hy
  ·cases h
 | u :: ord,pre,kQ,h,y,hy=>by
  obtain⟨x,l,o,rfl,h1,h2⟩:=kV h
  rcases List.mem_cons.1 hy with rfl|hy
  ·exact⟨⟨o,h1.ho,fun j hj=>(h1.pred j hj).1⟩,h1.beh⟩
  ·obtain⟨h3,h4⟩:=dJ ord (pre++[x]) l h2 y hy
   exact⟨h3,fun z hz=>h4 z (by simp[hz])⟩
theorem rR {b:Nat}{y:It}{d:Nat}{op:Bo}:∀(pre:List It),y∈pre→y.early=true→y.o.d=some d→y.o.op=.b op→rL op=.read→b.testBit y.i=false→⟨d,op,y.o.g⟩∈jI b pre
 | [],h,_,_,_,_,_=>by cases h
 | z :: pre,h,h1,h2,h3,h4,h5=>by
  rcases List.mem_cons.1 h with rfl|h
  ·simp[jI,h1,h2,h3,h4,h5]
  ·have ih:=rR pre h h1 h2 h3 h4 h5
   simp only[jI]
   split
   ·split
    ·exact List.mem_cons_of_mem _ ih
    ·exact ih
   ·exact ih
theorem iV {R R':ax}{y:It}(h:∀d,y.o.d=some d→R' d=R d):kT R' y=kT R y:=by
 unfold kT
 split
 ·rename_i d z h1 h2;simp only[h1,h2,h d h1]
 ·rename_i d h1 h2;simp only[h1,h2,h d h1]
 ·rfl
theorem tN.lt {g:Ctx}{N:Nat}{R:ax}{H:af}{y:It}(h:tN g N R H y){k:Nat}(hm:kT R y=some k):k<H.length:=by
 unfold kT at hm
 rcases h with⟨_,h2⟩|⟨_,d,b,h2,h3,h4⟩
 ·split at hm
  ·rename_i d z h1 _;rw[h2 d h1]at hm;cases hm
  ·rename_i d h1 _;rw[h2 d h1]at hm;cases hm
  ·cases hm
 ·rw[h2,h3]at hm
  rcases h4 with⟨hk,he⟩|⟨k',z,rfl,e1,e2,e3,e4⟩|⟨k',rfl,e1,e2,e3,e4⟩
  ·cases b<;>simp[rL]at hk hm
  ·simp only[e1,nB,Option.some.injEq]at hm;subst hm;exact(List.getElem?_eq_some_iff.1 e2).1
  ·simp only[e1,nB,Option.some.injEq]at hm;subst hm;exact(List.getElem?_eq_some_iff.1 e2).1
section
variable {P:Program} {n:Nat} {ops:Array Oper} {mu:Nat→Bool} {w0 w w' ws:World} {df:List Deferred} {mk:T} {g g' g0:Ctx} {H H0 H':af} {pre:List It} {L:Array Bool} {R:ax} {a:Act} {r:Option Nat} {x:It} {o:Oper}
theorem Dr.nQ (h:Dr P n ops mu w0 df mk g0 ws H0 pre L g R H a w)(hd:Hd P n ops mu pre x o):L.getD x.i false=false:=by
 cases e:L.getD x.i false with
 | false=>rfl
 | true=>obtain⟨y,hy,e⟩:=h.sub x.i e;exact absurd e (hd.ne y hy)
theorem bj {α:Type}{y x:α}{l:List α}(h:y∈l++[x]):y∈l∨y=x:=by simpa using h
theorem Dr.take (h:Dr P n ops mu w0 df mk g0 ws H0 pre L g R H a w)(hd:Hd P n ops mu pre x o)(he:x.early=true){t:T}(hp:tN g H0.length (bR R x.o.d t) H' x)
  (hH:H'=H∨∃B,H'=H++[B]∧((∃cs,B=.cells cs)∨∃es,B=.map es)) (hm:∀k,kT (bR R x.o.d t) x=some k→H.length≤k):Dr P n ops mu w0 df mk g0 ws H0 (pre++[x]) L g (bR R x.o.d t) H' a w:=by
 have zm:=h.nQ hd
 have fH:∀t:T,x.o.d≠some n:=fun _ e=>by
  obtain⟨op,gd,_,_,ON,_,Jm⟩:=bB hd.co
  have Yf:x.o.d=o.dst:=by rw[ON]
  exact Nat.lt_irrefl n (Jm n (Yf▸e))
 have CO:∀z∈pre,∀u∈z.ts,bR R x.o.d t u=R u:=fun z hz u hu=>cK fun e=>by
  obtain⟨h1,_⟩:=((hd.dst u e).1 z hz).2 hu
  rw[he]at h1;cases h1
 have DV:∀z∈pre,∀d,z.o.d=some d→bR R x.o.d t d=R d:=fun z hz d qT=>cK fun e=>((hd.dst d e).1 z hz).1 qT
 have ZB:∃l,H'=H++l:=by
  rcases hH with rfl|⟨B,rfl,_⟩
  ·exact⟨[],by simp⟩
  ·exact⟨[B],rfl⟩
 obtain⟨l,hl⟩:=ZB
 have hpz:∀z∈pre,L.getD z.i false=false→tN g H0.length (bR R x.o.d t) H' z:=fun z hz hu=>by
  obtain⟨oz,_,_,ZC⟩:=h.cmp z hz
  obtain⟨t1,t2,_⟩:=iD ZC
  refine(h.gk z hz hu).mono (fun u hu=>CO z hz u (t1 u hu)) (fun u hu=>CO z hz u (t2 u hu)) (DV z hz) (fun d b _ _ _ hk e=>?_) (fun k y _ hy _ hn _=>?_)
  ·subst hl;exact(uA hk e).2 l
  ·subst hl;exact⟨mQ hy,hn⟩
 refine { zS:=h.zS,cmp:=?_,rd:=?_,dd:=?_,kl:=?_,uniq:=?_,tO:=?_,closed:=h.closed,sub:=fun i hi=>?_,rQ:=?_,sr:=?_,le:=h.le,fr:=?_,xj:=h.xj,vL:=?_,gk:=?_,inj:=?_,ML:=h.ML,MM:=(by rw[cK (fH t)];exact h.MM) }
 ·intro y hy
  replace hy:=bj hy;rcases hy with hy|rfl
  ·exact h.cmp y hy
  ·exact⟨o,hd.ho,⟨_,hd.co⟩,hd.ts⟩
 ·intro y hy z hz TS d qT OQ
  replace hy:=bj hy;rcases hy with hy|rfl
  ·replace hz:=bj hz;rcases hz with hz|rfl
   ·exact h.rd y hy z hz TS d qT OQ
   ·obtain⟨h1,_⟩:=((hd.dst d qT).1 y hy).2 OQ
    rw[he]at h1;cases h1
  ·replace hz:=bj hz;rcases hz with hz|rfl
   ·exact hd.ZA z hz d qT OQ
   ·exact absurd OQ (hd.dst d qT).2
 ·intro y hy z hz d KF qT
  replace hy:=bj hy;rcases hy with hy|rfl
  ·replace hz:=bj hz;rcases hz with hz|rfl
   ·exact h.dd y hy z hz d KF qT
   ·exact absurd KF ((hd.dst d qT).1 y hy).1
  ·replace hz:=bj hz;rcases hz with hz|rfl
   ·exact absurd qT ((hd.dst d KF).1 z hz).1
   ·rfl
 ·intro y hy Bd o' nL
  replace hy:=bj hy;rcases hy with hy|rfl
  ·exact h.kl y hy Bd o' nL
  ·rw[hd.ho]at nL;cases nL;exact(hd.kl Bd).2
 ·intro y hy z hz e
  replace hy:=bj hy;rcases hy with hy|rfl
  ·replace hz:=bj hz;rcases hz with hz|rfl
   ·exact h.uniq y hy z hz e
   ·exact absurd e (hd.ne y hy)
  ·replace hz:=bj hz;rcases hz with hz|rfl
   ·exact absurd e.symm (hd.ne z hz)
   ·rfl
 ·intro y hy o' nL j hj
  replace hy:=bj hy;rcases hy with hy|rfl
  ·exact h.tO y hy o' nL j hj
  ·rw[hd.ho]at nL;cases nL;exact(hd.pred j hj).1
 ·obtain⟨y,hy,e⟩:=h.sub i hi
  exact⟨y,by simp[hy],e⟩
 ·intro y hy Bd
  replace hy:=bj hy;rcases hy with hy|rfl
  ·exact h.rQ y hy Bd
  ·rw[he]at Bd;cases Bd
 ·rcases hH with rfl|⟨B,rfl,hB⟩
  ·exact h.sr
  ·exact h.sr.Zv hB
 ·subst hl;exact h.fr.trans (Fr.ext g H l)
 ·intro u hu fI
  rw[cK (fI x (by simp) zm)]
  exact h.vL u hu fun y hy qC=>fI y (by simp[hy]) qC
 ·intro y hy qC
  replace hy:=bj hy;rcases hy with hy|rfl
  ·exact hpz y hy qC
  ·exact hp
 ·intro y hy z hz qC xI bF k hk kv
  replace hy:=bj hy;rcases hy with hy|rfl
  ·rw[iV (DV y hy)]at hk
   replace hz:=bj hz;rcases hz with hz|rfl
   ·rw[iV (DV z hz)]at kv
    exact h.inj y hy z hz qC xI bF k hk kv
   ·have h1:=(h.gk y hy qC).lt hk
    have h2:=hm k kv
    omega
  ·replace hz:=bj hz;rcases hz with hz|rfl
   ·rw[iV (DV z hz)]at kv
    have h1:=(h.gk z hz xI).lt kv
    have h2:=hm k hk
    omega
   ·exact bF rfl
theorem Dr.both (h:Dr P n ops mu w0 df mk g0 ws H0 pre L g R H a w)(hd:Hd P n ops mu pre x o)(he:x.early=false)(hp:∀j∈cJ o,L.getD j false=true){t:T}{v:Value}(le:Le g w g' w')(sr:SR w0 g' H' w')(hv:VR g' w' t v)(fr:Fr g H g' H')
  (hs:∀y∈pre,L.getD y.i false=false→∀d b,bV R y.o.g=true→y.o.d=some d→y.o.op=.b b→rL b=.read→au R H b=some (R d,H)→au R H' b=some (R d,H')) :
  Dr P n ops mu w0 df mk g0 ws H0 (pre++[x]) (L.setIfInBounds x.i true) g' (bR R x.o.d t) H' (a.put x.o.d v) w':=by
 have mc:x.i<L.size:=by rw[h.zS];exact(Array.getElem?_eq_some_iff.1 hd.ho).1
 have X9:∀j∈cJ o,j<x.i∧L.getD j false=true:=fun j hj=>⟨(hd.pred j hj).1,hp j hj⟩
 obtain⟨op,gd,SF,hgd,ON,Zw,Jm⟩:=bB hd.co
 have Yf:x.o.d=o.dst:=by rw[ON]
 have Zy:∀e,x.o.d=some e→e<a.tmps.size:=fun e h1=>by rw[h.xj];exact Jm e (Yf▸h1)
 have CO:∀z∈pre,L.getD z.i false=false→∀u∈z.ts,bR R x.o.d t u=R u:=fun z hz hu u hut=>cK fun e=>by
  obtain⟨_,h2⟩:=((hd.dst u e).1 z hz).2 hut
  rw[h.bit hd.ho X9 h2]at hu;cases hu
 have DV:∀z∈pre,∀d,z.o.d=some d→bR R x.o.d t d=R d:=fun z hz d qT=>cK fun e=>((hd.dst d e).1 z hz).1 qT
 refine { zS:=(by simp[h.zS]),cmp:=?_,rd:=?_,dd:=?_,kl:=?_,uniq:=?_,tO:=?_,closed:=?_,sub:=?_,rQ:=?_,sr:=sr,le:=h.le.trans le,fr:=h.fr.trans fr,xj:=(by rw[rP];exact h.xj),vL:=?_,gk:=?_,inj:=?_,ML:=(by rw[jJ];exact h.ML),MM:=(by rw[cK (fun e=>Nat.lt_irrefl n (Jm n (Yf▸e)))];exact h.MM) }
 ·intro y hy
  replace hy:=bj hy;rcases hy with hy|rfl
  ·exact h.cmp y hy
  ·exact⟨o,hd.ho,⟨_,hd.co⟩,hd.ts⟩
 ·intro y hy z hz TS d qT OQ
  replace hz:=bj hz;rcases hz with hz|rfl
  ·replace hy:=bj hy;rcases hy with hy|rfl
   ·exact h.rd y hy z hz TS d qT OQ
   ·exact hd.ZA z hz d qT OQ
  ·rw[he]at TS;cases TS
 ·intro y hy z hz d KF qT
  replace hy:=bj hy;rcases hy with hy|rfl
  ·replace hz:=bj hz;rcases hz with hz|rfl
   ·exact h.dd y hy z hz d KF qT
   ·exact absurd KF ((hd.dst d qT).1 y hy).1
  ·replace hz:=bj hz;rcases hz with hz|rfl
   ·exact absurd qT ((hd.dst d KF).1 z hz).1
   ·rfl
 ·intro y hy Bd o' nL
  replace hy:=bj hy;rcases hy with hy|rfl
  ·exact h.kl y hy Bd o' nL
  ·rw[he]at Bd;cases Bd
 ·intro y hy z hz e
  replace hy:=bj hy;rcases hy with hy|rfl
  ·replace hz:=bj hz;rcases hz with hz|rfl
   ·exact h.uniq y hy z hz e
   ·exact absurd e (hd.ne y hy)
  ·replace hz:=bj hz;rcases hz with hz|rfl
   ·exact absurd e.symm (hd.ne z hz)
   ·rfl
 ·intro y hy o' nL j hj
  replace hy:=bj hy;rcases hy with hy|rfl
  ·exact h.tO y hy o' nL j hj
  ·rw[hd.ho]at nL;cases nL;exact(hd.pred j hj).1
 ·intro i oi zT zU j hj
  rw[dU mc]at zU ⊢
  by_cases e:x.i=i
  ·subst e
   rw[hd.ho]at zT;cases zT
   obtain⟨h1,h2⟩:=X9 j hj
   exact⟨h1,by split<;>simp[h2]⟩
  ·rw[if_neg e]at zU
   obtain⟨h1,h2⟩:=h.closed i oi zT zU j hj
   exact⟨h1,by split<;>simp[h2]⟩
 ·intro i zU
  rw[dU mc]at zU
  by_cases e:x.i=i
  ·exact⟨x,by simp,e⟩
  ·rw[if_neg e]at zU
   obtain⟨y,hy,e⟩:=h.sub i zU
   exact⟨y,by simp[hy],e⟩
 ·intro y hy Bd
  rw[dU mc]
  split
  ·rfl
  ·rename_i bF
   replace hy:=bj hy;rcases hy with hy|rfl
   ·exact h.rQ y hy Bd
   ·exact absurd rfl bF
 ·intro u hu fI
  rw[rO _ _ _ _ Zy]
  split
  ·rename_i e;rw[e,jB];exact hv
  ·rename_i e
   rw[cK e]
   exact(h.vL u hu fun y hy qC=>fI y (by simp[hy]) (by rw[dU mc,if_neg (Ne.symm (hd.ne y hy))];exact qC)).mono le
 ·intro y hy qC
  rw[dU mc]at qC
  split at qC
  ·cases qC
  ·rename_i bF
   replace hy:=bj hy;rcases hy with hy|rfl
   ·obtain⟨oz,_,_,ZC⟩:=h.cmp y hy
    obtain⟨t1,t2,_⟩:=iD ZC
    exact(h.gk y hy qC).mono (fun u hu=>CO y hy qC u (t1 u hu)) (fun u hu=>CO y hy qC u (t2 u hu)) (DV y hy) (hs y hy qC) (fun k z _ hz KE hn _=>fr.2 k z hz KE hn)
   ·exact absurd rfl bF
 ·intro y hy z hz qC xI bF k hk kv
  rw[dU mc]at qC xI
  split at qC
  ·cases qC
  ·split at xI
   ·cases xI
   ·rename_i TT DU
    replace hy:=bj hy;rcases hy with hy|rfl
    ·replace hz:=bj hz;rcases hz with hz|rfl
     ·rw[iV (DV y hy)]at hk
      rw[iV (DV z hz)]at kv
      exact h.inj y hy z hz qC xI bF k hk kv
     ·exact absurd rfl DU
    ·exact absurd rfl TT
theorem Dr.init (sr:SR w0 g H w)(hn:a.tmps.size=n)(xi:R n=mk)(hr:∀t,t<n→VR g w (R t) (a.tmps.getD t undef))(le:Le g0 ws g w)(fr:Fr g0 H0 g H):Dr P n ops mu w0 a.defers mk g0 ws H0 [] (Array.replicate ops.size false) g R H a w:=by
 have hf:∀i,(Array.replicate ops.size false).getD i false=false:=fun i=>by
  rw[Array.getD_eq_getD_getElem?,Array.getElem?_replicate];split<;>rfl
 refine { zS:=by simp,cmp:=(by simp),rd:=(by simp),dd:=(by simp),kl:=(by simp),uniq:=(by simp),tO:=(by simp),closed:=fun i o _ h=>?_,sub:=fun i h=>?_,rQ:=(by simp),sr:=sr,le:=le,fr:=fr,xj:=hn,vL:=fun t ht _=>hr t ht,gk:=(by simp),inj:=(by simp),ML:=rfl,MM:=xi }
 ·rw[hf]at h;cases h
 ·rw[hf]at h;cases h
end
section
variable {P:Program} {w0 w:World} {g:Ctx} {H H':af} {R:ax} {a:Act} {n:Nat} {ops:Array Oper}
def lz:Bo→Bool
 | .nH _ _ _ _=>true
 | _=>false
theorem iW {b:Bo}(h:lz b=false){neg:Bool}{c:JF}{x y:X}:b≠.nH neg c x y:=by rintro rfl;cases h
theorem ES {ty:TypeId}{x:X}{b:Bo}(h:ur P ty x=some b):lz b=false:=by
 unfold ur at h;(repeat' split at h)<;>cases h<;>rfl
theorem uD {ty:TypeId}{x:X}{f:Nat}{ad:Bool}{b:Bo}(h:nP P ty x f ad=some b):lz b=false:=by
 unfold nP at h;(repeat' split at h)<;>cases h<;>rfl
theorem Be {ty:TypeId}{x i:X}{ad:Bool}{b:Bo}(h:zJ P ty x i ad=some b):lz b=false:=by
 unfold zJ at h;(repeat' split at h)<;>first|(cases h<;>rfl)|(simp only[Option.map_eq_some_iff]at h;obtain⟨_,_,h⟩:=h;cases h;rfl)
theorem CQ {ty:TypeId}{x:X}{lo hi mx:Option X}{b:Bo}(h:pE P ty x lo hi mx=some b):lz b=false:=by
 unfold pE at h;(repeat' split at h)<;>cases h<;>rfl
theorem ET {src dst:TypeId}{x:X}{b:Bo}(h:uu P src dst x=some b):lz b=false:=by
 unfold uu at h;(repeat' split at h)<;>cases h<;>rfl
theorem zV {mu:Bool}{jy:List TypeId}{as:List X}{b:Bo}(h:mO P mu jy as=some b):lz b=false:=by
 unfold mO at h;(repeat' split at h)<;>cases h<;>rfl
theorem KG {jy:List TypeId}{as:List X}{b:Bo}(h:xK P jy as=some b):lz b=false:=by
 unfold xK at h;(repeat' split at h)<;>cases h<;>rfl
theorem xW {mu:Bool}{bt:Builtin}{jy:List TypeId}{as:List X}{b:Bo}(h:jY P mu bt jy as=some b):lz b=false:=by
 unfold jY at h
 split at h
 ·split at h
  ·rename_i b' hz;cases h;exact KG hz
  ·exact zV h
 all_goals (repeat' split at h)<;>first|(cases h<;>rfl)|(simp only[Option.map_eq_some_iff]at h;obtain⟨_,_,h⟩:=h;cases h;rfl)
theorem CR {ty:TypeId}{ps:List (Nat×X)}{b:Bo}(h:pF P ty ps=some b):lz b=false:=by
 unfold pF at h;(repeat' split at h)<;>cases h<;>rfl
theorem KH {mu:Bool}{ty:TypeId}{n:Nat}{ps:List (Nat×X)}{b:Bo}(h:CG P mu ty n ps=some b):lz b=false:=by
 cases mu<;>unfold CG at h<;>(repeat' split at h)<;>cases h<;>rfl
theorem KI {mu:Bool}{ty:TypeId}{l c:X}{b:Bo}(h:CH P mu ty l c=some b):lz b=false:=by
 unfold CH at h;(repeat' split at h)<;>cases h<;>rfl
theorem zW {mu:Bool}{op:Op}{neg:Bool}{x y:X}(h:bO P mu op=some (.nH neg .slice x y)) :
  ∃SG ty ox oy yt e,op=.binOp SG ty ox oy yt∧aS ox=some x∧aS oy=some y∧P.underlying ty=some (.slice e)∧SG=(if neg then .neq else .eql):=by
 cases op<;>simp only[bO,Option.map_eq_some_iff,Option.bind_eq_some_iff]at h
 case binOp SG ty ox oy yt =>
  cases h1:aS ox with
  | none=>simp[h1]at h
  | some x'=>cases h2:aS oy with
   | none=>simp[h1,h2]at h
   | some y' =>
    simp only[h1,h2]at h
    unfold EF at h
    split at h
    ·cases h
    ·cases h
    ·simp only[Option.map_eq_some_iff]at h;obtain⟨_,_,h⟩:=h;cases h
    ·split at h
     ·split at h<;>cases h
     ·cases h
    ·rename_i d _ _ _ _ hu
     split at h
     ·rename_i n' c hn mM
      cases h
      refine⟨SG,ty,ox,oy,yt,?_⟩
      cases d<;>simp[cls]at mM
      exact⟨_,rfl,h1,h2,hu,by cases SG<;>simp[isEq]at hn<;>subst hn<;>rfl⟩
     ·cases h
    ·cases h
 case load=>obtain⟨_,_,h⟩:=h;exact absurd rfl (iW (ES h))
 case fieldAddr=>obtain⟨_,_,h⟩:=h;exact absurd rfl (iW (uD h))
 case field=>obtain⟨_,_,h⟩:=h;exact absurd rfl (iW (uD h))
 case indexAddr=>split at h;exact absurd rfl (iW (Be h));cases h
 case index=>split at h;exact absurd rfl (iW (Be h));cases h
 case slice=>split at h;exact absurd rfl (iW (CQ h));cases h
 case convert=>obtain⟨_,_,h⟩:=h;exact absurd rfl (iW (ET h))
 case build=>obtain⟨_,_,h⟩:=h;exact absurd rfl (iW (CR h))
 case buildSlice=>obtain⟨_,_,h⟩:=h;exact absurd rfl (iW (KH h))
 case makeSlice=>split at h;exact absurd rfl (iW (KI h));cases h
 case call c =>
  obtain⟨callee,args,jy⟩:=c
  cases callee
  case builtin=>simp only[bO,Option.bind_eq_some_iff]at h;obtain⟨_,_,h⟩:=h;exact absurd rfl (iW (xW h))
  case value cv =>
   cases cv<;>simp only[bO]at h<;>(try (cases h;done))
   split at h<;>cases h
  all_goals simp[bO]at h
 case makeMap t r=>cases r<;>simp[bO]at h
 case next it str=>cases str<;>simp[bO]at h
 case range ty m=>split at h;(simp only[Option.map_eq_some_iff]at h;obtain⟨_,_,h⟩:=h;cases h);cases h
 case makeFunc f first lR =>
  cases f<;>simp only[bO]at h
  case func f =>
   split at h
   ·simp only[Option.map_eq_some_iff]at h;obtain⟨_,_,h⟩:=h;cases h
   ·cases h
  all_goals cases h
 all_goals first
  | (cases h;done)
  | (obtain⟨_,_,h⟩:=h;cases h;done)
  | ((repeat' split at h)<;>first|(cases h;done)|(simp only[Option.map_eq_some_iff]at h;obtain⟨_,_,h⟩:=h;cases h;done))
  | (simp only[Option.map_eq_some_iff]at h;obtain⟨_,_,h⟩:=h;cases h)
  | skip
theorem CS {ty e:TypeId}{ox oy:Operand}{ad:Option Addr}{l p:Nat}{neg:Bool}(hu:P.underlying ty=some (.slice e)) :
  (do eqGuard (if neg then .neq else .eql) ty ox oy (.slice ad l p) (.slice none 0 0);binOp (if neg then .neq else .eql) ty (.slice ad l p) (.slice none 0 0)).run P w=.ok (.bool (if neg then !ad.isNone else ad.isNone)) w:=by
 have k1:∀op,(eqGuard op ty ox oy (.slice ad l p) (.slice none 0 0)).run P w=.ok () w:=fun op=>xB
 have k2:(Op.equal ty (.slice ad l p) (.slice none 0 0)).run P w=.ok ad.isNone w:=gP fun n=>by
  rw[Op.equalIn];simp only[Sem.run_bind,run_underlying hu,Result.andThen_ok]
  cases ad<;>simp_all
 have k3:∀neg:Bool,(binOp (if neg then .neq else .eql) ty (.slice ad l p) (.slice none 0 0)).run P w=((Op.equal ty (.slice ad l p) (.slice none 0 0)).run P w).andThen fun b w'=>.ok (.bool (if neg then !b else b)) w':=fun neg=>by cases neg<;>simp[binOp]
 simp only[Sem.run_bind,k1,Result.andThen_ok,k3,k2]
theorem CT {r:Option Nat}{mu:Bool}{o:Oper}{neg:Bool}{x y:X}(hc:bX P mu o.op=some (.b (.nH neg .slice x y)))(hr:iB g w R a (fx o.op.operands.toList))
  (hx:x.ev R=.sl .arg []) (hy:y.ev R=.sl .nil []):∃b:Bool,∀(K:Act→World→Prop) (Q:Exit→Act→World→Prop),K (a.put o.dst (.bool b)) w→o.wpIn (Fw r) 0 P a w K Q:=by
 have fH:=iJ hc
 obtain⟨SG,ty,ox,oy,yt,e,ho,h1,h2,hu,rfl⟩:=zW (jZ hc)
 have hrv:=uC hr
 have v1:=hrv ox (by rw[ho];simp[Op.operands]) x h1
 have v2:=hrv oy (by rw[ho];simp[Op.operands]) y h2
 rw[hx]at v1
 rw[hy]at v2
 generalize h3:a.eval ox=vx at v1
 generalize h4:a.eval oy=vy at v2
 have e2:vy=.slice none 0 0:=by
  cases v2 with
  | slnil=>rfl
  | sl dc hk=>exact hk.elim
 subst e2
 obtain⟨ad,l,p,rfl⟩:∃ad l p,vx=.slice ad l p:=by cases v1<;>exact⟨_,_,_,rfl⟩
 refine⟨if neg then !ad.isNone else ad.isNone,fun K Q hk=>⟨fun _ _=>trivial,?_⟩⟩
 rw[Oper.semAt_eq _ _ _ fH]
 have cF:(execOp a.eval o).run P w=.ok (.value (.bool (if neg then !ad.isNone else ad.isNone))) w:=by
  have:=CS (P:=P) (w:=w) (ox:=ox) (oy:=oy) (ad:=ad) (l:=l) (p:=p) (neg:=neg) hu
  simp only[execOp,ho,h3,h4]
  rw[Sem.run_bind,this]
  rfl
 rw[cF]
 exact hk
end
def iX (g:Ctx)(w:World)(n:Nat)(R:ax)(a:Act):Prop:=a.tmps.size=n∧∀t,t<n→VR g w (R t) (a.tmps.getD t undef)
def tP:Exit→Option Ex
 | .normal=>some .normal
 | .exit id=>some (.exit id)
 | .ret=>some .ret
 | _=>none
def zX (w0:World)(n:Nat)(df:List Deferred)(mk:T)(g:Ctx)(w:World)(H:af)(Q:Out→af→Prop):Exit→Act→World→Prop:=fun e a' w' =>
 ∃ex R' g' H',tP e=some ex∧Q (.ex ex R') H'∧Le g w g' w'∧SR w0 g' H' w'∧iX g' w' n R' a'∧Fr g H g' H'∧a'.defers=df∧R' n=mk
def uE (w0:World)(g:Ctx)(w:World)(H:af)(Q:T→af→Prop):Ending→World→Prop:=fun e w' =>
 ∃v t g' H',e=.returned v∧Q t H'∧Le g w g' w'∧SR w0 g' H' w'∧VR g' w' t v∧Fr g H g' H'
structure xX (P:Program)(E:Env):Prop where
 mixed:P.follows .mixedOrders=true
 fn:∀f fn,E.fn f=some fn→∃an,al P an f=some fn
 pr:∀f as H Q,E.pr f as H Q→∀w0 g w args,SR w0 g H w→bL g w as args→dS P f=true∧CallsIn (Fw none) 0 P f args.toArray w (uE w0 g w H Q)
inductive xY (g:Ctx):List T→List Deferred→Prop
 | nil:xY g [] []
 | cons {b r o q ts df} (h:g.φ b=some (r,o,q)) (hs:xY g ts df):xY g (.ptr b 0 :: ts) ({ target:=.collected r,args:=#[] } :: df)
theorem xY.mono {g g':Ctx}{w w':World}(le:Le g w g' w'){ts:List T}{df:List Deferred}(h:xY g ts df):xY g' ts df:=by
 induction h with
 | nil=>exact .nil
 | cons h _ ih=>exact .cons (le.φ _ _ h) ih
def Mk (g:Ctx)(t:T)(df:List Deferred):Prop:=∃ts,t=.bC ts∧xY g ts df
theorem Mk.mono {g g':Ctx}{w w':World}(le:Le g w g' w'){t:T}{df:List Deferred}(h:Mk g t df):Mk g' t df:=let ⟨ts,e,h⟩:=h;⟨ts,e,h.mono le⟩
def mg (w0:World)(n:Nat)(hr:Bool)(df:List Deferred)(mk:T)(g:Ctx)(w:World)(H:af)(Q:Out→af→Prop):Exit→Act→World→Prop:=fun e a' w' =>
 ∃ex R' g' H',tP e=some ex∧Q (.ex ex R') H'∧Le g w g' w'∧SR w0 g' H' w'∧iX g' w' n R' a'∧Fr g H g' H'∧(Mk g mk df→Mk g' (R' n) a'.defers)∧(hr=false→R' n=mk∧a'.defers=df)
def gS (P:Program)(g:Ctx):Prop:=∀n c k,g.ck n c k↔∃an,bE P n an false k=some c
theorem gS.mono {P:Program}{g g':Ctx}{w w':World}(le:Le g w g' w')(h:gS P g):gS P g':=fun n c k=>by rw[le.ck];exact h n c k
def rS (F:Fence)(n:Nat)(P:Program)(c:Code)(Q:Exit→Act→World→Prop)(a:Act)(w:World):Prop :=
 ∀(b:Frame) (k:List Item) (cs:List Frame),b.roundOf=F.round→F.fn b.fn→F.room (cs.length+1+n) →
  ∃e a' w',Q e a' w'∧ArrivesIn (Machine.fenced P F) P (lone (b.atR a (.code c :: .inLoop c :: k)) cs w) b k cs e a' w'
theorem xZ {F:Fence}{n:Nat}{P:Program}{c:Code}{Q:Exit→Act→World→Prop}{a:Act}{w:World}(h:c.wpIn F n P (Exit.then (rS F n P c Q) Q) a w):rS F n P c Q a w:=by
 intro b k cs Yg hb hr
 obtain⟨e,a₁,w₁,hq,oI⟩:=h b (.inLoop c :: k) cs Yg hb hr
 cases e with
 | normal =>
  obtain⟨e₂,a₂,w₂,hq₂,TU⟩:=hq b k cs Yg hb hr
  exact⟨e₂,a₂,w₂,hq₂,.of_steps (StepsIn.trans oI (.one (fenced_calm hb hr rfl) stepR_inLoop)) TU⟩
 | exit id=>exact⟨_,a₁,w₁,hq,.pass (x:=.inLoop c) rfl (fun _ _=>.inl (by simp)) oI⟩
 | goto l=>exact⟨_,a₁,w₁,hq,.pass (x:=.inLoop c) rfl (fun _ _=>.inl (by simp)) oI⟩
 | ret=>exact⟨_,a₁,w₁,hq,.pass (x:=.inLoop c) rfl (fun _ _=>.inl (by simp)) oI⟩
 | panic ch=>exact⟨_,a₁,w₁,hq,.pass (x:=.inLoop c) rfl (fun _ _=>.inl (by simp)) oI⟩
 | outgrown=>exact⟨_,a₁,w₁,hq,.pass (x:=.inLoop c) rfl (fun _ _=>.inl (by simp)) oI⟩
theorem CU {F:Fence}{n:Nat}{P:Program}{c:Code}{Q:Exit→Act→World→Prop}{a:Act}{w:World}(h:rS F n P c Q a w):(Code.loop c).wpIn F n P Q a w :=
 fun b k cs Yg hb hr=>let ⟨e,a',w',hq,oI⟩:=h b k cs Yg hb hr;⟨e,a',w',hq,.of_steps (.one (fenced_calm hb hr rfl) stepR_loop) oI⟩
section
variable {P:Program} {w0 w ws:World} {g g0:Ctx} {H H0 H':af} {R:ax} {a:Act} {n:Nat} {ops:Array Oper} {r:Option Nat} {mu:Bool} {i:Nat} {o:Oper} {st KJ:List Rd}
theorem qu {y:O}(hc:gn P n ops mu o st=some y):∀t∈tmpsOf o y.op y.g,t<n:=by
 obtain⟨op,gd,_,_,rfl,h,_⟩:=bB hc;exact h
theorem Bf {d:Option Nat}{op:MC}{gd:Gd}(ho:ops[i]?=some o)(hc:gn P n ops mu o st=some ⟨d,op,gd,KJ⟩)(hn:a.tmps.size=n)(hr:iB g w R a (tmpsOf o op gd))(hw:bV R gd=false)
  {K:Act→World→Prop} {Q:Exit→Act→World→Prop} (hk:K (a.put d undef) w):wpOpIn (Fw r) 0 P ops Q i K a w:=by
 obtain⟨OS,OT,h1,h2,h3,h4,h5⟩:=bB hc
 cases h3
 unfold wpOpIn
 simp only[ho,pL h2 hn (fun t ht=>h4 t (by simp[tmpsOf,ht])) (hr.sub fun t ht=>by simp[tmpsOf,ht]),hw]
 exact⟨fun _ _=>trivial,hk⟩
theorem iK {d:Option Nat}{op:MC}{gd:Gd}(ho:ops[i]?=some o)(hc:gn P n ops mu o st=some ⟨d,op,gd,KJ⟩)(hn:a.tmps.size=n)(hr:iB g w R a (tmpsOf o op gd))(hw:bV R gd=true)
  {K:Act→World→Prop} {Q:Exit→Act→World→Prop} (hk:o.wpIn (Fw r) 0 P a w K Q):wpOpIn (Fw r) 0 P ops Q i K a w:=by
 obtain⟨OS,OT,h1,h2,h3,h4,h5⟩:=bB hc
 cases h3
 unfold wpOpIn
 simp only[ho,pL h2 hn (fun t ht=>h4 t (by simp[tmpsOf,ht])) (hr.sub fun t ht=>by simp[tmpsOf,ht]),hw,if_true]
 exact hk
theorem mS {op:MC}{gd:Gd}(hr:iB g w R a (tmpsOf o op gd)):iB g w R a (fx o.op.operands.toList):=hr.sub fun t ht=>by simp[tmpsOf,ht]
theorem Bg {d:Option Nat}{b:Bo}{gd:Gd}{t:T}(ho:ops[i]?=some o)(hc:gn P n ops mu o st=some ⟨d,.b b,gd,KJ⟩)(hn:a.tmps.size=n)(hr:iB g w R a (tmpsOf o (.b b) gd))(hw:bV R gd=true)
  (h:SR w0 g H w) (he:au R H b=some (t,H')) :
  ∃v w' g',(∀(K:Act→World→Prop) (Q:Exit→Act→World→Prop),K (a.put d v) w'→wpOpIn (Fw r) 0 P ops Q i K a w)∧Le g w g' w'∧SR w0 g' H' w'∧VR g' w' t v∧Fr g H g' H':=by
 obtain⟨OS,OT,h1,h2,h3,h4,h5⟩:=bB hc
 cases h3
 obtain⟨v,w',g',hs,rest⟩:=EN (r:=r) h1 h (mS hr) he
 exact⟨v,w',g',fun K Q hk=>iK ho hc hn hr hw (hs K Q hk),rest⟩
theorem x7 {d:Option Nat}{x:X}{gd:Gd}{b bi:Nat}{es:List (T×T)}{ix:List Nat}{cur:Option Nat}(ho:ops[i]?=some o)(hc:gn P n ops mu o st=some ⟨d,.b (.qM x),gd,KJ⟩)(hn:a.tmps.size=n)(hr:iB g w R a (tmpsOf o (.b (.qM x)) gd))(hw:bV R gd=true)
  (h:SR w0 g H w) (hx:x.ev R=.ptr bi 0) (hb:H[b]?=some (.da es ix bi cur)) :
  ∃t H' v w' g',ov H b bi es ix t H'∧(∀(K:Act→World→Prop) (Q:Exit→Act→World→Prop),K (a.put d v) w'→wpOpIn (Fw r) 0 P ops Q i K a w)∧Le g w g' w'∧SR w0 g' H' w'∧VR g' w' t v∧Fr g H g' H':=by
 obtain⟨OS,OT,h1,h2,h3,h4,h5⟩:=bB hc
 cases h3
 obtain⟨t,H',v,w',g',KE,hs,rest⟩:=EO (r:=r) h1 h (mS hr) hx hb
 exact⟨t,H',v,w',g',KE,fun K Q hk=>iK ho hc hn hr hw (hs K Q hk),rest⟩
theorem uF {d:Option Nat}{neg:Bool}{x y:X}{gd:Gd}(ho:ops[i]?=some o)(hc:gn P n ops mu o st=some ⟨d,.b (.nH neg .slice x y),gd,KJ⟩)(hn:a.tmps.size=n)(hr:iB g w R a (tmpsOf o (.b (.nH neg .slice x y)) gd))(hw:bV R gd=true)
  (hx:x.ev R=.sl .arg []) (hy:y.ev R=.sl .nil []):∃b:Bool,∀(K:Act→World→Prop) (Q:Exit→Act→World→Prop),K (a.put d (.bool b)) w→wpOpIn (Fw r) 0 P ops Q i K a w:=by
 obtain⟨OS,OT,h1,h2,h3,h4,h5⟩:=bB hc
 cases h3
 obtain⟨b,hs⟩:=CT (r:=r) h1 (mS hr) hx hy
 exact⟨b,fun K Q hk=>iK ho hc hn hr hw (hs K Q hk)⟩
theorem uG {d:Option Nat}{f:Nat}{as:List X}{gd:Gd}{M:T→af→Prop}(ho:ops[i]?=some o)(hc:gn P n ops mu o st=some ⟨d,.call f as,gd,KJ⟩)(hn:a.tmps.size=n)(hr:iB g w R a (tmpsOf o (.call f as) gd))(hw:bV R gd=true)
  (ih:∀args,bL g w (as.map (X.ev R)) args→dS P f=true∧CallsIn (Fw none) 0 P f args.toArray w (uE w0 g w H M)) {K:Act→World→Prop} {Q:Exit→Act→World→Prop}
  (hk:∀v w' g' H' t,M t H'→Le g w g' w'→SR w0 g' H' w'→VR g' w' t v→Fr g H g' H'→K (a.put d v) w'):wpOpIn (Fw r) 0 P ops Q i K a w:=by
 obtain⟨OS,OT,h1,h2,h3,h4,h5⟩:=bB hc
 cases h3
 obtain⟨args,hv,hs⟩:=CM (r:=r) h1 (mS hr)
 obtain⟨k1,k2⟩:=ih args hv
 exact iK ho hc hn hr hw (hs K Q k1 (k2.mono fun e w' ⟨v,t,g',H',he,hM,le,sr,gw,fr⟩=>⟨v,he,hk v w' g' H' t hM le sr gw fr⟩))
theorem rT {d:Option Nat}{x:X}{f:Nat}{cs:List T}{as:List X}{gd:Gd}{M:T→af→Prop}(ho:ops[i]?=some o)(hc:gn P n ops mu o st=some ⟨d,.bJ x as,gd,KJ⟩)(hn:a.tmps.size=n)(hr:iB g w R a (tmpsOf o (.bJ x as) gd))(hw:bV R gd=true)
  (hx:x.ev R=.fn f cs) (ih:∀args,bL g w (as.map (X.ev R)++cs) args→dS P f=true∧CallsIn (Fw none) 0 P f args.toArray w (uE w0 g w H M)) {K:Act→World→Prop} {Q:Exit→Act→World→Prop}
  (hk:∀v w' g' H' t,M t H'→Le g w g' w'→SR w0 g' H' w'→VR g' w' t v→Fr g H g' H'→K (a.put d v) w'):wpOpIn (Fw r) 0 P ops Q i K a w:=by
 obtain⟨OS,OT,h1,h2,h3,h4,h5⟩:=bB hc
 cases h3
 obtain⟨args,hv,hs⟩:=zR (r:=r) h1 (mS hr) hx
 obtain⟨k1,k2⟩:=ih args hv
 exact iK ho hc hn hr hw (hs K Q k1 (k2.mono fun e w' ⟨v,t,g',H',he,hM,le,sr,gw,fr⟩=>⟨v,he,hk v w' g' H' t hM le sr gw fr⟩))
theorem iX.put {d:Option Nat}{v:Value}{t:T}{w':World}{g':Ctx}(h:iX g w n R a)(hd:∀e,d=some e→e<n)(le:Le g w g' w')(hv:VR g' w' t v):iX g' w' n (bR R d t) (a.put d v):=by
 refine⟨by rw[rP];exact h.1,fun u hu=>?_⟩
 rw[rO _ _ _ _ (by rw[h.1];exact hd)]
 split
 ·rename_i e;rw[e,jB];exact hv
 ·rename_i e;rw[cK e];exact(h.2 u hu).mono le
theorem iX.rg (h:iX g w n R a){ts:List Nat}(ht:∀t∈ts,t<n):iB g w R a ts:=fun t hm=>h.2 t (ht t hm)
end
section
variable {P:Program} {n:Nat} {ops:Array Oper} {mu:Nat→Bool} {w0 ws:World} {df:List Deferred} {mk:T} {g0:Ctx} {H0:af} {pre:List It} {r:Option Nat} {x:It} {o:Oper} {Q:Out→af→Prop}
def left (L:Array Bool):Nat:=L.toList.count false
theorem rU {L:Array Bool}{i:Nat}(hi:i<L.size)(hf:L.getD i false=false):left (L.setIfInBounds i true)+1=left L:=by
 unfold left
 rw[Array.toList_setIfInBounds,List.count_set (by simpa using hi)]
 have hg:L.toList[i]'(by simpa using hi)=false:=by
  rw[Array.getD_eq_getD_getElem?,Array.getElem?_eq_getElem hi,Option.getD_some]at hf
  simpa using hf
 have OD:0<L.toList.count false:=List.count_pos_iff.2 (hg▸List.getElem_mem _)
 rw[hg]
 have e1:((false==false:Bool)=true):=rfl
 have e2:¬((true==false:Bool)=true):=by decide
 rw[if_pos e1,if_neg e2]
 omega
theorem uH {L:Array Bool}(h:left L=0){i:Nat}(hi:i<L.size):L.getD i false=true:=by
 cases e:L.getD i false with
 | true=>rfl
 | false=>have:=rU hi e;omega
theorem uI {L:Array Bool}(bg:L.size=ops.size)(OI:∀i o,ops[i]?=some o→∀j∈cJ o,j<i)(h:Region.ready .any ops L=[]):∀i,i<ops.size→L.getD i false=true:=by
 intro i
 induction i using Nat.strongRecOn with
 | _ i ih =>
  intro hi
  cases e:L.getD i false with
  | true=>rfl
  | false =>
   have:i∈Region.ready .any ops L:=by
    rw[mem_ready]
    refine⟨?_,ops[i],Array.getElem?_eq_getElem hi,fun ed he hb=>?_⟩
    ·have lF:i<L.size:=by omega
     rw[Array.getD_eq_getD_getElem?,Array.getElem?_eq_getElem lF]at e ⊢;exact e
    ·have hj:ed.on∈cJ ops[i]:=by simp only[cJ,List.mem_map,List.mem_filter];exact⟨ed,⟨by simpa using he,hb⟩,rfl⟩
     have:=OI i _ (Array.getElem?_eq_getElem hi) _ hj
     exact ih _ this (by omega)
   rw[h]at this;cases this
theorem CV {R:ax}{H:af}(bD:∀i,i<ops.size→∃y∈pre,y.i=i)(hQ:Q (.ex .normal R) H):∀(fuel:Nat) (L:Array Bool) (g:Ctx) (a:Act) (w:World),left L≤fuel→Dr P n ops mu w0 df mk g0 ws H0 pre L g R H a w →
  wpAnyIn (Fw r) 0 P .any ops (zX w0 n df mk g0 ws H0 Q) fuel L a w:=by
 have fin:∀(L:Array Bool) (g:Ctx) (a:Act) (w:World),Dr P n ops mu w0 df mk g0 ws H0 pre L g R H a w→(∀i,i<ops.size→L.getD i false=true)→zX w0 n df mk g0 ws H0 Q .normal a w:=by
  intro L g a w h hl
  refine⟨.normal,R,g,H,rfl,hQ,h.le,h.sr,⟨h.xj,fun t ht=>h.vL t ht fun y hy hu=>?_⟩,h.fr,h.ML,h.MM⟩
  obtain⟨o,ho,_⟩:=h.cmp y hy
  rw[hl y.i (Array.getElem?_eq_some_iff.1 ho).1]at hu;cases hu
 have OI:∀(L:Array Bool) (g:Ctx) (a:Act) (w:World),Dr P n ops mu w0 df mk g0 ws H0 pre L g R H a w→∀i o,ops[i]?=some o→∀j∈cJ o,j<i:=by
  intro L g a w h i o ho
  obtain⟨y,hy,rfl⟩:=bD i (Array.getElem?_eq_some_iff.1 ho).1
  exact h.tO y hy o ho
 intro fuel
 induction fuel with
 | zero =>
  intro L g a w hL h
  have hl:∀i,i<ops.size→L.getD i false=true:=fun i hi=>uH (by omega) (by rw[h.zS];exact hi)
  refine⟨?_,fin L g a w h hl⟩
  refine List.eq_nil_iff_forall_not_mem.2 fun i hi=>?_
  obtain⟨h1,o,h2,_⟩:=mR hi
  rw[hl i (Array.getElem?_eq_some_iff.1 h2).1]at h1;cases h1
 | succ fuel ih =>
  intro L g a w hL h
  refine⟨fun hr=>fin L g a w h (uI h.zS (OI L g a w h) hr),fun i hi=>?_⟩
  obtain⟨h1,o,h2,_⟩:=mR hi
  have aq:=(Array.getElem?_eq_some_iff.1 h2).1
  obtain⟨y,hy,rfl⟩:=bD i aq
  obtain⟨v,w',g',hs,hd⟩:=h.late (r:=r) hy hi
  have:=rU (by rw[h.zS];exact aq) h1
  exact hs _ _ (ih _ _ _ _ (by omega) hd)
theorem fy {R:ax}{H:af}{Tl:ax→af→Prop}{Qx:Exit→Act→World→Prop}{l:List It}(hd:Hd P n ops mu pre x o)(hx:x.early=false)(bD:∀i,i<ops.size→∃y∈pre++x :: l,y.i=i)
  (TV:∀y∈l,(∃o,ops[y.i]?=some o∧(∀j∈cJ o,j<y.i))∧∀z∈pre++[x],z.early=true∨((fq ops.toList []).getD y.i 0).testBit z.i=true)
  (hT:∀R' H',Tl R' H'→∀fuel L' g' a' w',left L'≤fuel→Dr P n ops mu w0 df mk g0 ws H0 (pre++[x]) L' g' R' H' a' w'→wpAnyIn (Fw r) 0 P .any ops Qx fuel L' a' w')
  (hX:∀L g a w,Dr P n ops mu w0 df mk g0 ws H0 pre L g R H a w→(∀j∈cJ o,L.getD j false=true)→∀K:Act→World→Prop,
   (∀R' H' g' a' w',Tl R' H'→Dr P n ops mu w0 df mk g0 ws H0 (pre++[x]) (L.setIfInBounds x.i true) g' R' H' a' w'→K a' w')→wpOpIn (Fw r) 0 P ops Qx x.i K a w) :
  ∀(fuel:Nat) (L:Array Bool) (g:Ctx) (a:Act) (w:World),left L≤fuel→Dr P n ops mu w0 df mk g0 ws H0 pre L g R H a w→wpAnyIn (Fw r) 0 P .any ops Qx fuel L a w:=by
 have Jg:x.i<ops.size:=(Array.getElem?_eq_some_iff.1 hd.ho).1
 intro fuel
 induction fuel with
 | zero =>
  intro L g a w hL h
  have h1:=h.nQ hd
  rw[uH (by omega) (by rw[h.zS];exact Jg)]at h1;cases h1
 | succ fuel ih =>
  intro L g a w hL h
  have Eh:=h.nQ hd
  refine⟨fun hr=>?_,fun i hi=>?_⟩
  ·have hl:=uI h.zS (fun i o' nL j hj=>?_) hr x.i Jg
   ·rw[hl]at Eh;cases Eh
   ·obtain⟨y,hy,rfl⟩:=bD i (Array.getElem?_eq_some_iff.1 nL).1
    rcases List.mem_append.1 hy with hy|hy
    ·exact h.tO y hy o' nL j hj
    ·rcases List.mem_cons.1 hy with rfl|hy
     ·rw[hd.ho]at nL;cases nL;exact(hd.pred j hj).1
     ·obtain⟨⟨o2,h2,h3⟩,_⟩:=TV y hy
      rw[h2]at nL;cases nL;exact h3 j hj
  ·obtain⟨h1,o',h2,h3⟩:=mR hi
   have aq:=(Array.getElem?_eq_some_iff.1 h2).1
   have agi:=rU (by rw[h.zS];exact aq) h1
   obtain⟨y,hy,rfl⟩:=bD i aq
   rcases List.mem_append.1 hy with hy|hy
   ·obtain⟨v,w',g',hs,ZD⟩:=h.late (r:=r) hy hi
    exact hs _ _ (ih _ _ _ _ (by omega) ZD)
   ·rcases List.mem_cons.1 hy with rfl|hy
    ·rw[hd.ho]at h2;cases h2
     exact hX L g a w h h3 _ fun R' H' g' a' w' ht ZD=>hT R' H' ht fuel _ g' a' w' (by omega) ZD
    ·obtain⟨⟨o2,h4,h5⟩,h6⟩:=TV y hy
     rw[h2]at h4;cases h4
     rcases h6 x (by simp)with h7|h7
     ·rw[hx]at h7;cases h7
     ·have:=h.bit h2 (fun j hj=>⟨h5 j hj,h3 j hj⟩) h7
      rw[Eh]at this;cases this
end
def ZE (P : Program) : J → af → (Out → af → Prop) → Prop
  | .code c R, H, Q => ∀(w0 : World) (g : Ctx) (w : World) (a : Act) (n : Nat) (an : An) (top : Bool) (code : Code) (r : Option Nat), bE P n an top code = some c → (top = true → r = none) → gS P g → SR w0 g H w → iX g w n R a →
      code.wpIn (Fw r) 0 P (mg w0 n c.na a.defers (R n) g w H Q) a w ∧ ∀body, code = .loop body → rS (Fw r) 0 P body (mg w0 n c.na a.defers (R n) g w H Q) a w
  | .ops l R, H, Q => (∀(w0 : World) (g0 : Ctx) (ws : World) (H0 : af) (g : Ctx) (w : World) (a : Act) (n : Nat) (ops : Array Oper) (mu : Nat → Bool) (is : List Nat) (r : Option Nat), gN P n ops mu is = some l → gS P g → SR w0 g H w → iX g w n R a →
        Le g0 ws g w → Fr g0 H0 g H → wpOpsIn (Fw r) 0 P ops (zX w0 n a.defers (R n) g0 ws H0 Q) is a w) ∧
      (∀(w0 : World) (n : Nat) (ops : Array Oper) (mu : Nat → Bool) (df : List Deferred) (mk : T) (g0 : Ctx) (ws : World) (H0 : af) (pre : List It) (L : Array Bool) (g : Ctx) (a : Act) (w : World) (ord : List (Nat×Bool)) (kQ : List It) (r : Option Nat) (fuel : Nat),
        gS P g → eC P n ops mu (fq ops.toList []) pre ord = some kQ → kQ.map (·.o) = l → Dr P n ops mu w0 df mk g0 ws H0 pre L g R H a w → left L ≤ fuel → wpAnyIn (Fw r) 0 P .any ops (zX w0 n df mk g0 ws H0 Q) fuel L a w)
  | .call f as, H, Q => ∀(w0 : World) (g : Ctx) (w : World) (args : List Value), gS P g → SR w0 g H w → bL g w as args → dS P f = true ∧ CallsIn (Fw none) 0 P f args.toArray w (uE w0 g w H fun v H' => Q (.val v) H')
theorem mg.trans {w0 w w':World}{n:Nat}{hr pn:Bool}{df ZF:List Deferred}{mk mk':T}{g g':Ctx}{H H':af}{Q:Out→af→Prop}(le:Le g w g' w')(fr:Fr g H g' H')(hm:Mk g mk df→Mk g' mk' ZF)(hh:hr=false→pn=false∧mk'=mk∧ZF=df)
  {e:Exit} {a:Act} {u:World} (h:mg w0 n pn ZF mk' g' w' H' Q e a u):mg w0 n hr df mk g w H Q e a u:=by
 obtain⟨ex,R',g2,H2,h1,h2,h3,h4,h5,h6,h7,h8⟩:=h
 refine⟨ex,R',g2,H2,h1,h2,le.trans h3,h4,h5,fr.trans h6,fun m=>h7 (hm m),fun e=>?_⟩
 obtain⟨k1,k2,k3⟩:=hh e
 obtain⟨k4,k5⟩:=h8 k1
 exact⟨k4.trans k2,k5.trans k3⟩
theorem zX.toC {w0 w:World}{n:Nat}{hr:Bool}{df:List Deferred}{mk:T}{g:Ctx}{H:af}{Q:Out→af→Prop}{e:Exit}{a:Act}{u:World}(h:zX w0 n df mk g w H Q e a u):mg w0 n hr df mk g w H Q e a u:=by
 obtain⟨ex,R',g2,H2,h1,h2,h3,h4,h5,h6,h7,h8⟩:=h
 exact⟨ex,R',g2,H2,h1,h2,h3,h4,h5,h6,fun m=>by rw[h7,h8];exact m.mono h3,fun _=>⟨h8,h7⟩⟩
section
variable {P:Program} {n:Nat} {an:An} {top:Bool} {code:Code}
theorem EU (h:bE P n an top code=some .skip):code=.skip:=by
 cases code<;>(try simp only[bE]at h)
 case region id ops draw=>cases draw<;>simp only[bE]at h<;>(repeat' split at h)<;>simp at h
 all_goals first|rfl|(cases h;done)|((repeat' split at h)<;>simp at h;done)|(simp at h;done)
theorem EV {id:Nat}(h:bE P n an top code=some (.exit id)):code=.exit id:=by
 cases code<;>(try simp only[bE]at h)
 case region id ops draw=>cases draw<;>simp only[bE]at h<;>(repeat' split at h)<;>simp at h
 all_goals first|(cases h;rfl)|(cases h;done)|((repeat' split at h)<;>simp at h;done)|(simp at h;done)
theorem KK (h:bE P n an top code=some .ret):code=.ret:=by
 cases code<;>(try simp only[bE]at h)
 case region id ops draw=>cases draw<;>simp only[bE]at h<;>(repeat' split at h)<;>simp at h
 all_goals first|rfl|(cases h;done)|((repeat' split at h)<;>simp at h;done)|(simp at h;done)
theorem KL {x y:C}(h:bE P n an top code=some (.seq x y)):∃c d,code=.seq c d∧bE P n an top c=some x∧bE P n an top d=some y:=by
 cases code<;>(try simp only[bE]at h)
 case region id ops draw=>cases draw<;>simp only[bE]at h<;>(repeat' split at h)<;>simp at h
 case seq c d =>
  split at h
  ·rename_i h1 h2;cases h;exact⟨c,d,rfl,h1,h2⟩
  ·cases h
 all_goals first|(cases h;done)|((repeat' split at h)<;>simp at h;done)|(simp at h;done)
theorem EW {c:X}{x y:C}(h:bE P n an top code=some (.cond c x y)):∃o d e,code=.cond o d e∧aS o=some c∧bE P n an top d=some x∧bE P n an top e=some y∧∀t,o=.tmp t→t<n:=by
 cases code<;>(try simp only[bE]at h)
 case region id ops draw=>cases draw<;>simp only[bE]at h<;>(repeat' split at h)<;>simp at h
 case cond o d e =>
  split at h
  ·rename_i h1 h2 h3
   cases o with
   | tmp t =>
    simp only[decide_eq_true_eq]at h
    split at h
    ·rename_i h4;cases h;exact⟨_,d,e,rfl,h1,h2,h3,fun t' ht=>by cases ht;exact h4⟩
    ·cases h
   | _=>simp at h;obtain⟨rfl,rfl,rfl⟩:=h;exact⟨_,d,e,rfl,h1,h2,h3,fun t ht=>by cases ht⟩
  ·cases h
 all_goals first|(cases h;done)|((repeat' split at h)<;>simp at h;done)|(simp at h;done)
theorem CW {id:Nat}{x:C}(h:bE P n an top code=some (.block id x)):∃c,code=.block id c∧bE P n an top c=some x:=by
 cases code<;>(try simp only[bE]at h)
 case region id ops draw=>cases draw<;>simp only[bE]at h<;>(repeat' split at h)<;>simp at h
 case block id' c =>
  simp only[Option.map_eq_some_iff]at h
  obtain⟨x',h1,h2⟩:=h
  cases h2;exact⟨c,rfl,h1⟩
 all_goals first|(cases h;done)|((repeat' split at h)<;>simp at h;done)|(simp at h;done)
theorem EX {x:C}(h:bE P n an top code=some (.loop x)):∃c,code=.loop c∧bE P n an top c=some x:=by
 cases code<;>(try simp only[bE]at h)
 case region id ops draw=>cases draw<;>simp only[bE]at h<;>(repeat' split at h)<;>simp at h
 case loop c =>
  simp only[Option.map_eq_some_iff]at h
  obtain⟨x',h1,h2⟩:=h
  cases h2;exact⟨c,rfl,h1⟩
 all_goals first|(cases h;done)|((repeat' split at h)<;>simp at h;done)|(simp at h;done)
theorem CX {m:Nat}{x:X}{ps:List Nat}{y z:C}(h:bE P n an top code=some (.cZ m x ps y z)):∃g qs c d,code=.rangeFunc g qs c d∧aS g=some x∧bE P n an false c=some y∧bE P n an false d=some z∧top=true∧(∀t∈eA x,t<n)∧qs.toList=ps∧(∀p∈ps,p<n)∧m=n:=by
 cases code<;>(try simp only[bE]at h)
 case region id ops draw=>cases draw<;>simp only[bE]at h<;>(repeat' split at h)<;>simp at h
 case rangeFunc g qs c d =>
  split at h
  ·rename_i h1 h2 h3
   split at h
   ·rename_i h4
    cases h
    simp only[Bool.and_eq_true,List.all_eq_true,decide_eq_true_eq]at h4
    exact⟨g,qs,c,d,rfl,h1,h2,h3,h4.1.1,h4.1.2,rfl,h4.2,rfl⟩
   ·cases h
  ·cases h
 all_goals first|(cases h;done)|((repeat' split at h)<;>simp at h;done)|(simp at h;done)
theorem KM {l:List O}(h:bE P n an top code=some (.ops l)):∃id ops mu,(code=.region id ops false∧gN P n ops mu (List.range ops.size)=some l) ∨
  (code=.region id ops true∧∃ord kQ,eC P n ops mu (fq ops.toList []) [] ord=some kQ∧kQ.map (·.o)=l):=by
 cases code<;>(try simp only[bE]at h)
 case region id ops draw =>
  cases draw<;>simp only[bE]at h
  ·simp only[Option.map_eq_some_iff]at h
   obtain⟨l',h1,h2⟩:=h
   cases h2;exact⟨id,ops,_,.inl ⟨rfl,h1⟩⟩
  ·split at h
   ·rename_i ord _
    simp only[Option.map_eq_some_iff]at h
    obtain⟨kQ,h1,h2⟩:=h
    cases h2;exact⟨id,ops,_,.inr ⟨rfl,ord,kQ,h1,rfl⟩⟩
   ·cases h
 all_goals first|(cases h;done)|((repeat' split at h)<;>simp at h;done)|(simp at h;done)
end
theorem dL {P:Program}{n:Nat}{ops:Array Oper}{mu:Nat→Bool}{is:List Nat}{o:O}{l:List O}(h:gN P n ops mu is=some (o :: l)) :
  ∃i uJ oper,is=i :: uJ∧ops[i]?=some oper∧gn P n ops (mu i) oper []=some o∧gN P n ops mu uJ=some l:=by
 cases is with
 | nil=>simp[gN]at h
 | cons i uJ =>
  simp only[gN]at h
  split at h
  ·rename_i oper ho
   split at h
   ·rename_i h1 h2;cases h;exact⟨i,uJ,oper,rfl,ho,h1,h2⟩
   ·cases h
  ·cases h
theorem x8 {P:Program}{n:Nat}{ops:Array Oper}{mu:Nat→Bool}{is:List Nat}(h:gN P n ops mu is=some []):is=[]:=by
 cases is with
 | nil=>rfl
 | cons i uJ =>
  simp only[gN]at h
  split at h
  ·split at h<;>simp at h
  ·cases h
theorem iY {P:Program}{n:Nat}{ops:Array Oper}{mu:Nat→Bool}{pre:List It}{ord:List (Nat×Bool)}{kQ:List It}{o:O}{l:List O}(h:eC P n ops mu (fq ops.toList []) pre ord=some kQ)(hm:kQ.map (·.o)=o :: l) :
  ∃x l' gA oper,kQ=x :: l'∧x.o=o∧l'.map (·.o)=l∧Hd P n ops mu pre x oper∧eC P n ops mu (fq ops.toList []) (pre++[x]) gA=some l':=by
 cases ord with
 | nil =>
  simp only[eC]at h
  split at h
  ·cases h;simp at hm
  ·cases h
 | cons y gA =>
  obtain⟨x,l',oper,rfl,h1,h2⟩:=kV h
  simp only[List.map_cons,List.cons.injEq]at hm
  exact⟨x,l',gA,oper,rfl,hm.1,hm.2,h1,h2⟩
section
variable {P:Program} {n:Nat} {ops:Array Oper} {mu:Nat→Bool} {w0 w ws:World} {df:List Deferred} {mk:T} {g g0:Ctx} {H H0 H':af} {pre:List It} {L:Array Bool} {R:ax} {a:Act} {r:Option Nat} {x:It} {o:Oper}
theorem Hd.sub (hd:Hd P n ops mu pre x o)(v:T):(∀t∈nz x.o.g,bR R x.o.d v t=R t)∧∀t∈Bc x.o.op,bR R x.o.d v t=R t:=by
 obtain⟨t1,t2,_⟩:=iD hd.ts
 exact⟨fun t ht=>cK fun e=>(hd.dst t e).2 (t1 t ht),fun t ht=>cK fun e=>(hd.dst t e).2 (t2 t ht)⟩
theorem Dr.KN (h:Dr P n ops mu w0 df mk g0 ws H0 pre L g R H a w)(hd:Hd P n ops mu pre x o)(he:x.early=true)(hw:bV R x.o.g=false):Dr P n ops mu w0 df mk g0 ws H0 (pre++[x]) L g (bR R x.o.d cf) H a w:=by
 refine h.take hd he (.inl ⟨?_,fun d e=>by rw[e,jB]⟩) (.inl rfl) fun k hk=>?_
 ·rw[me (R':=R) (hd.sub cf).1];exact hw
 ·unfold kT at hk
  split at hk
  ·rename_i e _;rw[e,jB]at hk;cases hk
  ·rename_i e _;rw[e,jB]at hk;cases hk
  ·cases hk
theorem Dr.KO {b:Bo}{v:T}(h:Dr P n ops mu w0 df mk g0 ws H0 pre L g R H a w)(hd:Hd P n ops mu pre x o)(he:x.early=true)(hb:x.o.op=.b b)(hw:bV R x.o.g=true)(hv:au R H b=some (v,H')) :
  Dr P n ops mu w0 df mk g0 ws H0 (pre++[x]) L g (bR R x.o.d v) H' a w:=by
 obtain⟨k1,k2⟩:=hd.kl he
 cases KP:x.o.d with
 | none=>exact absurd (by simp[Jl,hb,KP]) k1
 | some d =>
  have MN:Jl x.o=rL b:=by simp[Jl,hb,KP]
  rw[MN]at k1 k2
  have zG:bV (bR R x.o.d v) x.o.g=true:=by rw[me (R':=R) (hd.sub v).1];exact hw
  have KQ:∀H2,au (bR R x.o.d v) H2 b=au R H2 b:=fun H2=>rN fun t ht=>(hd.sub v).2 t (by rw[hb];exact ht)
  have OU:bR R x.o.d v d=v:=by rw[KP,jB]
  rw[←KP]
  have hq:(rL b=.pure∨rL b=.read)→H'=H→Dr P n ops mu w0 df mk g0 ws H0 (pre++[x]) L g (bR R x.o.d v) H' a w:=by
   rintro hk rfl
   refine h.take hd he (.inr ⟨zG,d,b,KP,hb,.inl ⟨hk,by rw[KQ,OU];exact hv⟩⟩) (.inl rfl) fun k hm=>?_
   unfold kT at hm
   rw[hb]at hm
   split at hm
   ·rename_i h1;cases h1;simp[rL]at hk
   ·rename_i h1;cases h1;simp[rL]at hk
   ·cases hm
  cases hk:rL b with
  | OL=>exact absurd hk k1
  | pure=>exact hq (.inl hk) (uz hk hv).1
  | read=>exact hq (.inr hk) (uA hk hv).1
  | make =>
   have hln:H0.length≤H.length:=h.fr.1
   cases b<;>simp only[rL]at hk<;>(try (cases hk;done))
   case nH=>split at hk<;>cases hk
   case alloc z =>
    simp only[au,Option.some.injEq,Prod.mk.injEq]at hv
    obtain⟨rfl,rfl⟩:=hv
    refine h.take hd he (.inr ⟨zG,d,_,KP,hb,.inr (.inl ⟨H.length,z,rfl,OU,fS _ _,h.sr.J0 (Nat.le_refl _),hln⟩)⟩) (.inr ⟨_,rfl,.inl ⟨_,rfl⟩⟩) fun k hm=>?_
    simp only[kT,KP,hb,jB,nB,Option.some.injEq]at hm
    omega
   case AP =>
    simp only[au,Option.some.injEq,Prod.mk.injEq]at hv
    obtain⟨rfl,rfl⟩:=hv
    refine h.take hd he (.inr ⟨zG,d,_,KP,hb,.inr (.inr ⟨H.length,rfl,OU,fS _ _,h.sr.J0 (Nat.le_refl _),hln⟩)⟩) (.inr ⟨_,rfl,.inr ⟨_,rfl⟩⟩) fun k hm=>?_
    simp only[kT,KP,hb,jB,nB,Option.some.injEq]at hm
    omega
theorem Dr.fz (h:Dr P n ops mu w0 df mk g0 ws H0 pre L g R H a w)(hd:Hd P n ops mu pre x o)(hp:∀j∈cJ o,L.getD j false=true):iB g w R a (tmpsOf o x.o.op x.o.g) :=
 h.look hd.ho (fun j hj=>⟨(hd.pred j hj).1,hp j hj⟩) (qu hd.co) fun z hz _ d qT ht=>hd.ZA z hz d qT (by rw[hd.ts];exact ht)
theorem Dr.stays (h:Dr P n ops mu w0 df mk g0 ws H0 pre L g R H a w)(hd:Hd P n ops mu pre x o)(he:x.early=false)(hp:∀j∈cJ o,L.getD j false=true)(hs:kz R H' x.o.Cm) :
  ∀y∈pre,L.getD y.i false=false→∀d b,bV R y.o.g=true→y.o.d=some d→y.o.op=.b b→rL b=.read→au R H b=some (R d,H)→au R H' b=some (R d,H'):=by
 intro y hy hu d b hw KF hyb hk _
 have Bd:y.early=true:=by cases e:y.early with|true=>rfl|false=>rw[h.rQ y hy e]at hu;cases hu
 have ZG:((fq ops.toList []).getD x.i 0).testBit y.i=false:=by
  cases e:((fq ops.toList []).getD x.i 0).testBit y.i with
  | false=>rfl
  | true=>rw[h.bit hd.ho (fun j hj=>⟨(hd.pred j hj).1,hp j hj⟩) e]at hu;cases hu
 have hm:=rR pre hy Bd KF hyb hk ZG
 rw[←hd.st he]at hm
 exact hs _ hm hw
end
theorem x9 {g:Ctx}{w:World}{n:Nat}:∀(ps:List Nat) (vs:List T) (us:List Value) (R:ax) (tmps:Array Value),bL g w vs us→vs.length=ps.length→tmps.size=n→(∀t,t<n→VR g w (R t) (tmps.getD t undef))→(∀p∈ps,p<n) →
  ((ps.zip us).foldl (fun tmps (t,a)=>tmps.setIfInBounds t a) tmps).size=n∧∀t,t<n→VR g w (jv R ps vs t) (((ps.zip us).foldl (fun tmps (t,a)=>tmps.setIfInBounds t a) tmps).getD t undef)
 | [],vs,us,R,tmps,hv,hl,hn,hr,_=>by
  cases vs with
  | nil=>exact⟨by simpa using hn,by simpa[jv]using hr⟩
  | cons _ _=>simp at hl
 | p :: ps,[],us,R,tmps,hv,hl,hn,hr,_=>by simp at hl
 | p :: ps,v :: vs,[],R,tmps,hv,hl,hn,hr,_=>by have:=hv.1;simp at this
 | p :: ps,v :: vs,u :: us,R,tmps,hv,hl,hn,hr,hp=>by
  simp only[List.zip_cons_cons,List.foldl_cons,jv]
  refine x9 ps vs us (pj R p v) (tmps.setIfInBounds p u) hv.tail (by simpa using hl) (by simpa using hn) (fun t ht=>?_) (fun q hq=>hp q (by simp[hq]))
  have A4:p<tmps.size:=by rw[hn];exact hp p (by simp)
  by_cases e:p=t
  ·subst e;simp only[pj,if_true];rw[Array.getD_eq_getD_getElem?];simp[A4];exact hv.head
  ·simp only[pj];rw[if_neg (Ne.symm e),Array.getD_eq_getD_getElem?,Array.getElem?_setIfInBounds_ne e,←Array.getD_eq_getD_getElem?];exact hr t ht
section
variable {P:Program} {w0 w ws:World} {g g0:Ctx} {H H0 H':af} {R:ax} {a:Act} {n:Nat} {ops:Array Oper} {r:Option Nat} {mu:Bool} {i:Nat} {o:Oper} {st KJ:List Rd}
theorem EY {e:Ex}(h:e≠.normal):(∃id,e=.exit id∧xy (some e)=some (.exit id))∨(e=.ret∧xy (some e)=some .ret):=by
 cases e with
 | normal=>exact absurd rfl h
 | exit id=>exact .inl ⟨id,rfl,rfl⟩
 | ret=>exact .inr ⟨rfl,rfl⟩
theorem ya {d:Option Nat}{x:X}{as:List X}{gd:Gd}{b m:Nat}{R0:ax}{ps:List Nat}{cj body:C}{M1 M:Out→af→Prop}(ho:ops[i]?=some o)(hc:gn P n ops mu o st=some ⟨d,.bJ x as,gd,KJ⟩)(hn:a.tmps.size=n)(hr:iB g w R a (tmpsOf o (.bJ x as) gd))(hw:bV R gd=true)
  (hx:x.ev R=.od b) (hb:H[b]?=some (.loop .ready none m R0 ps cj body)) (hlen:as.length=ps.length) (ck:gS P g) (sr:SR w0 g H w)
  (xk:ZE P (.code cj (jv R0 ps (as.map (X.ev R)))) H M1) (DK:∀o H',M1 o H'→(∃R1,o=.ex .normal R1)∧H'[b]?=some (.loop .ready none m R0 ps cj body))
  (oj:∀R1 H1,M1 (.ex .normal R1) H1→ZE P (.code body R1) (H1.set b (.loop .busy none m R0 ps cj body)) M) (DL:∀o H',M o H'→H'[b]?=some (.loop .busy none m R0 ps cj body))
  {K:Act→World→Prop} {Q:Exit→Act→World→Prop}
  (hk:∀v w' g' H' t,((∃R' H2,M (.ex .normal R') H2∧t=.bool true∧H'=H2.set b (.loop .ready none m R0 ps cj body))∨(∃e R' H2,M (.ex e R') H2∧e≠.normal∧t=.bool false∧H'=H2.set b (.loop .done (some e) m R0 ps cj body))) →
   Le g w g' w'→SR w0 g' H' w'→VR g' w' t v→Fr g H g' H'→K (a.put d v) w'):wpOpIn (Fw r) 0 P ops Q i K a w:=by
 obtain⟨OS,OT,h1,h2,h3,h4,h5⟩:=bB hc
 cases h3
 refine iK ho hc hn hr hw ⟨fun _ _=>trivial,?_⟩
 have fH:=iJ h1
 obtain⟨t,args,jy,rfl,SF,h6⟩:=nA h1
 have qv:=mS hr
 have hv:=gy (ρ:=a.eval) args.toList as h6 (uC (qv.sub fun t ht=>by
  simp only[fx,List.mem_filterMap]at ht ⊢
  obtain⟨x,hx,e⟩:=ht
  exact⟨x,by rw[SF];simp only[Op.operands,Call.operands];simp at hx;simp[hx],e⟩))
 have hf:=qv t (by rw[SF];simp only[fx,List.mem_filterMap];exact⟨.tmp t,by simp[Op.operands,Call.operands],rfl⟩)
 simp only[X.ev]at hx
 rw[hx]at hf
 generalize Bb:a.tmps.getD t undef=vf at hf
 cases hf with
 | @od _ l o' q' hφ =>
  obtain⟨k1,rec,k2,k3,k4,k5,k6,k7,k8,k9,TW⟩:=sr.eG b _ hb l o' q' hφ
  rw[Oper.semAt_eq _ _ _ fH]
  have bg:(args.toList.map a.eval).toArray.size=rec.params.size:=by
   have:=hv.1;simp at this
   have e2:rec.params.size=ps.length:=by rw[←k5];simp
   simp[e2,←hlen,this]
  have cF:(execOp a.eval o).run P w=.ok (.round l rec.fn ((rec.params.zip (args.toList.map a.eval).toArray).foldl (fun tmps (t,a)=>tmps.setIfInBounds t a) rec.tmps) rec.assign rec.body) w:=by
   have hy:=run_yield (P:=P) (args:=(args.toList.map a.eval).toArray) k2 bg
   have e2:(args.toList.map a.eval).toArray=args.map a.eval:=by rw[←Array.toList_map]
   rw[e2]at hy ⊢
   have e:a.eval (.tmp t)=.func (.yield l) #[] #[]:=Bb
   simp only[execOp,SF,resolve,e,Deferred.ofValue,invoke]
   simpa using hy
  rw[cF,Oper.uponIn_round]
  refine⟨fun h=>by simp[Fw]at h,roundIn_of_wpIn trivial ?_⟩
  have CO:(rec.params.zip (args.toList.map a.eval).toArray).foldl (fun tmps (t,a)=>tmps.setIfInBounds t a) rec.tmps=(ps.zip (args.toList.map a.eval)).foldl (fun tmps (t,a)=>tmps.setIfInBounds t a) rec.tmps:=by
   rw[←Array.foldl_toList,Array.toList_zip,k5]
  rw[CO]
  have l8:=x9 ps (as.map (X.ev R)) (args.toList.map a.eval) R0 rec.tmps hv (by simpa using hlen) k6 k7 k8
  obtain⟨an1,lQ⟩:=(ck _ _ _).1 k9
  obtain⟨an2,pB⟩:=(ck _ _ _).1 TW
  refine wpIn_mono (xk w0 g w { tmps:=(ps.zip (args.toList.map a.eval)).foldl (fun tmps (t,a)=>tmps.setIfInBounds t a) rec.tmps,defers:=[] } m an1 false rec.assign (some l) lQ (by simp) ck sr l8).1 fun e a1 w1 hp=>?_
  obtain⟨ex,R1,g1,H1,e1,hm,dG,OF,DW,ZH,-,-⟩:=hp
  obtain⟨⟨R1',hR1⟩,kF⟩:=DK _ _ hm
  cases hR1
  cases e<;>simp only[tP,Option.some.injEq,reduceCtorEq]at e1
  have SI:=dG.φ _ _ hφ
  obtain⟨j1,ZI,j2,j3,j4,j5,j6,j7,j8,j9,j10⟩:=OF.eG b _ kF l o' q' SI
  refine⟨_,run_beginRound j2 j3,?_⟩
  obtain⟨KR,MO,Bh⟩:=OF.vJ (y':=.loop .busy none m R0 ps cj body) (x':=.loop { ZI with state:=.busy }) kF SI j1 j2 rfl rfl (fun w' le zG r o q hq=>by
   rw[SI]at hq;cases hq
   exact⟨j1,_,zG,rfl,j4,j5,j6,fun t ht=>(j7 t ht).mono le,j8,j9,j10⟩)
  refine wpIn_mono (oj _ _ hm w0 g1 _ a1 m an2 false rec.body (some l) pB (by simp) (ck.mono dG) MO ⟨DW.1,fun t ht=>(DW.2 t ht).mono KR⟩).1 fun e2 a2 w3 lH=>?_
  obtain⟨Yh,R2,g2,H2,e3,OW,Bi,CY,tQ,DX,-,-⟩:=lH
  have lP:=DL _ _ OW
  have A5:=Bi.φ _ _ SI
  obtain⟨i1,ZJ,i2,i3,i4,i5,i6,i7,i8,i9,i10⟩:=CY.eG b _ lP l o' q' A5
  have fin:∀(jump:Option Code) (st:Oa) (pe:Option Ex) (v:Bool),xy pe=jump→st.real=(if jump.isNone then .ready else .done)→v=jump.isNone →
    ((v=true∧Yh=.normal∧st=.ready∧pe=none)∨(v=false∧Yh≠.normal∧st=.done∧pe=some Yh)) →
    ∃v' w',(Instr.endRound l jump).run P w3=.ok v' w'∧K (a.put o.dst v') w':=by
   intro jump st pe v q1 q2 q3 q4
   obtain⟨Jn,Jo,DY⟩:=CY.vJ (y':=.loop st pe m R0 ps cj body) (x':=.loop { ZJ with state:=if jump.isNone then .ready else .done,pending:=jump }) lP A5 i1 i2 rfl rfl (fun w' le zG r o q hq=>by
    rw[A5]at hq;cases hq
    exact⟨i1,_,zG,q2.symm,q1.symm,i5,i6,fun t ht=>(i7 t ht).mono le,i8,i9,i10⟩)
   refine⟨_,_,run_endRound jump i2,?_⟩
   refine hk _ _ g2 (H2.set b (.loop st pe m R0 ps cj body)) (.bool v) ?_ (((dG.trans KR).trans Bi).trans Jn) Jo (by rw[←q3];exact .bool v) (((ZH.trans Bh).trans DX).trans DY)
   rcases q4 with⟨rfl,rfl,rfl,rfl⟩|⟨rfl,bF,rfl,rfl⟩
   ·exact .inl ⟨R2,H2,OW,rfl,rfl⟩
   ·exact .inr ⟨Yh,R2,H2,OW,bF,rfl,rfl⟩
  cases e2<;>simp only[tP,Option.some.injEq,reduceCtorEq]at e3<;>subst e3
  case normal=>exact fin none .ready none true rfl rfl rfl (.inl ⟨rfl,rfl,rfl,rfl⟩)
  case exit id=>exact fin (some (.exit id)) .done (some (.exit id)) false rfl rfl rfl (.inr ⟨rfl,by simp,rfl,rfl⟩)
  case ret=>exact fin (some .ret) .done (some .ret) false rfl rfl rfl (.inr ⟨rfl,by simp,rfl,rfl⟩)
end
theorem vM {P:Program}{w0:World}{F:Func}{n:Nat}{t0:T}{res:List Rs}:∀(ts:List T) (df:List Deferred) (bs:List Nat) (g:Ctx) (H:af) (w:World) (R:ax) (a:Act) (Rr:Ending→World→Prop),
  xY g ts df→rh ts=some bs→bs.Nodup→(∀b∈bs,H[b]?=some .AR)→SR w0 g H w→iX g w n R a →
  (∀w' v,Le g w g w'→SR w0 g (kill H bs) w'→iX g w' n R a→Fr g H g (kill H bs)→(results F a.tmps).run P w'=.ok v w'→VR g w' t0 v→Rr (.returned v) w') →
  qB R (kill H bs) res=some t0→(∀(g:Ctx) (w:World) (H:af),SR w0 g H w→iX g w n R a→qB R H res=some t0→∃v,(results F a.tmps).run P w=.ok v w∧VR g w t0 v) →
  LeavesInM (Fw none) 0 P F a.tmps Rr df .returning w:=by
 intro ts
 induction ts with
 | nil =>
  intro df bs g H w R a Rr hm hb _ _ sr hr hk rV cF
  cases hm
  simp only[rh,Option.some.injEq]at hb;subst hb
  obtain⟨v,h1,h2⟩:=cF g w H sr hr rV
  exact⟨v,h1,hk w v (.refl _ _) sr hr (.refl _ _) h1 h2⟩
 | cons t ts ih =>
  intro df bs g H w R a Rr hm hb fH KS sr hr hk rV cF
  cases hm with
  | @cons b r o q _ df hφ TX =>
   simp only[rh,D9]at hb
   split at hb
   ·rename_i b' bs' e1 e2
    cases e1
    cases hb
    have hdb:=KS b (by simp)
    obtain⟨k1,k2⟩:=sr.eG b _ hdb r o q hφ
    obtain⟨le,jO,tn⟩:=sr.vJ (y':=.dead) (x':=.deferred none) hdb hφ k1 k2 rfl rfl (fun _ _ _=>trivial)
    refine⟨by simp,.inl ⟨r,_,rfl,run_takeDeferred k2,?_⟩⟩
    simp only[List.nodup_cons]at fH
    refine ih df bs' g (H.set b .dead) _ R a Rr TX e2 fH.2 (fun c hc=>?_) jO ⟨hr.1,fun t ht=>(hr.2 t ht).mono le⟩ (fun w' v KR MO tR Bh=>hk w' v (le.trans KR) MO tR (tn.trans Bh)) rV cF
    exact fT (KS c (by simp[hc])) (by rintro rfl;exact fH.1 hc)
   ·cases hb
def yc (tmps:Array Value):ResultVar→Sem Value
 | .tmp t=>pure (tmps.getD t undef)
 | .cell a t=>do loadVar t (←asAddr (tmps.getD a undef))
theorem mh {P:Program}{w0:World}{g:Ctx}{w:World}{H:af}{R:ax}{a:Act}{n:Nat}(sr:SR w0 g H w):∀(l:List ResultVar) (res:List Rs) (ts:List T),oK P l=some res→tD R H res=some ts→(∀t∈res,CK n t=true)→iX g w n R a →
  ∃vs:List Value,(l.mapM (yc a.tmps)).run P w=.ok vs w∧bL g w ts vs
 | [],res,ts,h,ht,_,_=>by simp[oK]at h;subst h;simp[tD]at ht;subst ht;exact⟨[],by simp,bL.nil⟩
 | .tmp t :: l,res,ts,h,ht,hn,hr=>by
  simp only[oK,Option.map_eq_some_iff]at h
  obtain⟨OX,h1,rfl⟩:=h
  simp only[tD,zw]at ht
  split at ht
  ·rename_i v vs hv jq
   cases ht;cases hv
   obtain⟨us,h2,h3⟩:=mh (P:=P) sr l OX vs h1 jq (fun t ht=>hn t (by simp[ht])) hr
   exact⟨a.tmps.getD t undef :: us,by rw[List.mapM_cons];simp only[Sem.run_bind,yc,Sem.run_pure,Result.andThen_ok,h2],bL.cons (hr.2 t (by simpa[CK]using hn (.t t) (by simp))) h3⟩
  ·cases ht
 | .cell c t :: l,res,ts,h,ht,hn,hr=>by
  simp only[oK]at h
  split at h
  ·rename_i d i hu hi
   simp only[Option.map_eq_some_iff]at h
   obtain⟨OX,h1,rfl⟩:=h
   simp only[tD]at ht
   split at ht
   ·rename_i v vs hv jq
    cases ht
    obtain⟨us,h2,h3⟩:=mh (P:=P) sr l OX vs h1 jq (fun t ht=>hn t (by simp[ht])) hr
    simp only[zw]at hv
    split at hv
    ·rename_i cs tH
     have hc:=hr.2 c (by simpa[CK]using hn (.cl c (if eM d=true then i.size else 1) (eM d)) (by simp))
     obtain⟨u,w',g',cF,hw,gw,hg⟩:=JJ (P:=P) hu hi rfl (fun e=>by rw[if_pos e]) sr hc tH hv
     subst hw;subst hg
     obtain⟨r,o,us0,hp,_⟩:=pt sr hc tH
     have TY:(yc a.tmps (.cell c t)).run P w'=.ok u w':=by
      rw[←cF,hp]
      have e:yc a.tmps (.cell c t)=(asAddr (a.tmps.getD c undef) >>= fun x=>loadVar t x):=rfl
      rw[e,hp]
      simp only[asAddr,Instr.loadAt,Instr.sureAddr,Sem.run_bind,Sem.run_pure,Result.andThen_ok]
     exact⟨u :: us,by rw[List.mapM_cons];simp only[Sem.run_bind,TY,Result.andThen_ok,h2,Sem.run_pure],bL.cons gw h3⟩
    ·cases hv
   ·cases ht
  ·cases h
theorem rW {P:Program}{fn:Func}{w0:World}{g:Ctx}{w:World}{H:af}{R:ax}{a:Act}{n:Nat}{res:List Rs}{t:T}(sr:SR w0 g H w)(h:oK P fn.results.toList=some res)(hn:∀t∈res,CK n t=true)(hr:iX g w n R a)(ht:qB R H res=some t):∃v,(results fn a.tmps).run P w=.ok v w∧VR g w t v:=by
 simp only[qB,Option.map_eq_some_iff]at ht
 obtain⟨ts,ht,rfl⟩:=ht
 obtain⟨vs,h1,h2⟩:=mh (P:=P) sr fn.results.toList res ts h ht hn hr
 have hl:ts.length=vs.length:=h2.1
 have e:results fn a.tmps=(fn.results.mapM (yc a.tmps) >>= fun vs=>pure (if h:vs.size=1 then vs[0]else .tuple vs)):=rfl
 refine⟨if h:vs.toArray.size=1 then vs.toArray[0]else .tuple vs.toArray,?_,?_⟩
 ·rw[e,Array.mapM_eq_mapM_toList]
  simp only[Sem.run_bind,Sem.run_map,map_eq_pure_bind,h1,Result.andThen_ok,Sem.run_pure]
 ·match ts,vs,hl,h2 with
  | [],[],_,_=>exact .bC rfl (by simp)
  | [t],[v],_,h2=>simpa[Cp]using h2.head
  | t :: t' :: ts,v :: v' :: vs,_,h2 =>
   have:¬(v :: v' :: vs).toArray.size=1:=by simp
   rw[dif_neg this]
   simpa[Cp]using h2.bC
theorem gT {P:Program}{n:Nat}{ops:Array Oper}{mu:Bool}{o:Oper}{st:List Rd}{y:O}(h:gn P n ops mu o st=some y):y.d≠some n:=by
 obtain⟨_,_,_,_,e,_,h5⟩:=bB h
 subst e
 exact fun e=>Nat.lt_irrefl n (h5 n e)
theorem Bj {P:Program}{n:Nat}{ops:Array Oper}{mu:Nat→Bool}{w0 w ws w':World}{df:List Deferred}{mk:T}{g g0 g':Ctx}{H H0 H':af}{pre ZK:List It}{L L':Array Bool}{R R':ax}{a a':Act}
  (h:Dr P n ops mu w0 df mk g0 ws H0 pre L g R H a w) (h':Dr P n ops mu w0 df mk g0 ws H0 ZK L' g' R' H' a' w') (ck:gS P g):gS P g':=fun n c k=>by rw[h'.le.ck,←h.le.ck];exact ck n c k
theorem rX {P:Program}{an:An}{f:FuncId}{fn:Fn}(xl:al P an f=some fn):∃F code res body,P.funcs[f]?=some F∧F.body=some code∧oK P F.results.toList=some res∧bE P F.ntmps an true code=some body ∧
  dS P f=true∧F.params.size+F.nfree≤F.ntmps∧(∀t∈res,CK F.ntmps t=true)∧fn=⟨F.ntmps,F.params.size+F.nfree,res,body⟩:=by
 unfold al at xl
 cases hF:P.funcs[f]? with
 | none=>simp[hF]at xl
 | some F =>
  simp only[hF]at xl
  split at xl
  ·rename_i code res hb rV
   split at xl
   ·rename_i c vG
    split at xl
    ·rename_i hk
     simp only[Bool.and_eq_true,decide_eq_true_eq,List.all_eq_true]at hk
     obtain⟨⟨kS,bg⟩,aq⟩:=hk
     cases xl
     exact⟨F,code,res,c,rfl,hb,rV,vG,kS,bg,aq,rfl⟩
    ·cases xl
   ·cases xl
  ·cases xl
theorem rY {F:Func}{g:Ctx}{w:World}{as:List T}{args:List Value}(hv:bL g w as args){k:Nat}(hn:as.length=k)(bg:k≤F.ntmps) :
  iX g w F.ntmps (iq as) { tmps:=args.toArray++Array.replicate (F.ntmps-args.toArray.size) undef,defers:=[] }:=by
 have KU:args.length=as.length:=hv.1.symm
 refine⟨by simp[KU,hn];omega,fun t ht=>?_⟩
 by_cases Yi:t<as.length
 ·simp only[iq]
  rw[List.getD_eq_getElem?_getD,List.getElem?_eq_getElem Yi,Option.getD_some]
  rw[Array.getD_eq_getD_getElem?,Array.getElem?_append_left (by simpa[KU]using Yi)]
  simp only[List.getElem?_toArray,List.getElem?_eq_getElem (KU▸Yi:t<args.length),Option.getD_some]
  exact hv.2 t _ _ (List.getElem?_eq_getElem Yi) (List.getElem?_eq_getElem _)
 ·simp only[iq]
  rw[List.getD_eq_getElem?_getD,List.getElem?_eq_none (by omega),Option.getD_none]
  rw[Array.getD_eq_getD_getElem?,Array.getElem?_append_right (by simp[KU];omega),Array.getElem?_replicate]
  split<;>exact iU
theorem mg.TZ {w0 w:World}{n:Nat}{hr pn:Bool}{df:List Deferred}{mk:T}{g:Ctx}{H:af}{Q:Out→af→Prop}(hh:hr=false→pn=false){e:Exit}{a:Act}{u:World}(h:mg w0 n pn df mk g w H Q e a u):mg w0 n hr df mk g w H Q e a u :=
 h.trans (.refl _ _) (.refl _ _) id fun e=>⟨hh e,rfl,rfl⟩
theorem W.sim {P:Program}{E:Env}(hE:xX P E){j:J}{H:af}{Q:Out→af→Prop}(h:W E j H Q):ZE P j H Q:=by
 induction h with
 | @skip R H Q h =>
  intro w0 g w a n an top code r hc ht ck sr hr
  obtain rfl:=EU hc
  exact⟨wpIn_skip ⟨.normal,R,g,H,rfl,h,.refl _ _,sr,hr,.refl _ _,id,fun _=>⟨rfl,rfl⟩⟩,by rintro _⟨⟩⟩
 | @exit id R H Q h =>
  intro w0 g w a n an top code r hc ht ck sr hr
  obtain rfl:=EV hc
  exact⟨wpIn_exit ⟨.exit id,R,g,H,rfl,h,.refl _ _,sr,hr,.refl _ _,fun m=>m,fun _=>⟨rfl,rfl⟩⟩,by rintro _⟨⟩⟩
 | @ret R H Q h =>
  intro w0 g w a n an top code r hc ht ck sr hr
  obtain rfl:=KK hc
  exact⟨wpIn_ret ⟨.ret,R,g,H,rfl,h,.refl _ _,sr,hr,.refl _ _,id,fun _=>⟨rfl,rfl⟩⟩,by rintro _⟨⟩⟩
 | @Sq l R H Q _ ih =>
  intro w0 g w a n an top code r hc ht ck sr hr
  obtain⟨id,ops,mu,⟨rfl,h1⟩|⟨rfl,ord,kQ,h1,h2⟩⟩:=KM hc
  ·exact⟨wpIn_mono (wpIn_region (ih.1 w0 g w H g w a n ops mu _ r h1 ck sr hr (.refl _ _) (.refl _ _))) fun e a w hp=>hp.toC,by rintro _⟨⟩⟩
  ·refine⟨wpIn_mono (wpIn_region_any (Q:=zX w0 n a.defers (R n) g w H Q) hE.mixed ?_) fun e a w hp=>hp.toC,by rintro _⟨⟩⟩
   obtain⟨jO,le⟩:=sr.drew (w':={ w with drawn:=w.drawn+1 }) (Tr.drew w) rfl
   have hd:=Dr.init (ops:=ops) (mu:=mu) (P:=P) (mk:=R n) jO hr.1 rfl (fun t ht=>(hr.2 t ht).mono le) le (.refl g H)
   refine ih.2 w0 n ops mu a.defers (R n) g w H [] _ g a _ ord kQ r ops.size ck h1 h2 hd ?_
   exact Nat.le_trans (List.count_le_length) (by simp)
 | @seq x y R H Q M _ h2 h3 xk oj =>
  intro w0 g w a n an top code r hc ht ck sr hr
  obtain⟨c,d,rfl,k1,k2⟩:=KL hc
  refine⟨wpIn_seq (wpIn_mono (xk w0 g w a n an top c r k1 ht ck sr hr).1 fun e a' w' hp=>?_),by rintro _⟨⟩⟩
  have hb:(C.seq x y).na=false→x.na=false∧y.na=false:=by simp[C.na]
  obtain⟨ex,R',g',H',e1,hm,le,jO,pn,fr,xi,Bl⟩:=hp
  cases e<;>simp only[tP,Option.some.injEq,reduceCtorEq]at e1<;>subst e1
  case normal =>
   exact wpIn_mono (oj R' H' hm w0 g' w' a' n an top d r k2 ht (ck.mono le) jO pn).1 fun e a2 w2 hp=>hp.trans le fr xi fun e=>⟨(hb e).2,Bl (hb e).1⟩
  case exit id=>exact⟨_,R',g',H',rfl,h3 _ _ hm (by simp),le,jO,pn,fr,xi,fun e=>Bl (hb e).1⟩
  case ret=>exact⟨_,R',g',H',rfl,h3 _ _ hm (by simp),le,jO,pn,fr,xi,fun e=>Bl (hb e).1⟩
 | @cond x c d R H Q t hx _ ih =>
  intro w0 g w a n an top code r hc ht ck sr hr
  obtain⟨o,d',e',rfl,k1,k2,k3,k4⟩:=EW hc
  refine⟨wpIn_cond (t:=t) ?_ ?_,by rintro _⟨⟩⟩
  ·have hv:VR g w (.bool t) (a.eval o):=by
    cases o with
    | tmp u=>simp only[aS,Option.some.injEq]at k1;subst k1;simp only[X.ev]at hx;rw[←hx];exact hr.2 u (k4 u rfl)
    | const v =>
     simp only[aS,Option.map_eq_some_iff]at k1
     obtain⟨u,h1,rfl⟩:=k1
     simp only[X.ev]at hx;subst hx
     exact mN h1
    | «global» _=>simp[aS]at k1
    | func f=>simp only[aS,Option.some.injEq]at k1;subst k1;simp[X.ev]at hx
   generalize a.eval o=v at hv
   cases hv;rfl
  ·cases t
   ·exact wpIn_mono (ih w0 g w a n an top e' r k3 ht ck sr hr).1 fun e a w hp=>hp.TZ (by simp[C.na])
   ·exact wpIn_mono (ih w0 g w a n an top d' r k2 ht ck sr hr).1 fun e a w hp=>hp.TZ (by simp[C.na];intro h _;exact h)
 | @block id x R H Q M _ h2 h3 ih =>
  intro w0 g w a n an top code r hc ht ck sr hr
  obtain⟨c,rfl,k1⟩:=CW hc
  refine⟨wpIn_block (wpIn_mono (ih w0 g w a n an top c r k1 ht ck sr hr).1 fun e a' w' hp=>?_),by rintro _⟨⟩⟩
  obtain⟨ex,R',g',H',e1,hm,le,jO,pn,fr,Bl⟩:=hp
  cases e<;>simp only[tP,Option.some.injEq,reduceCtorEq]at e1<;>subst e1
  case normal=>exact⟨_,R',g',H',rfl,h3 _ _ hm (by simp),le,jO,pn,fr,Bl⟩
  case exit id' =>
   simp only[Exit.inBlock]
   split
   ·rename_i e;subst e;exact⟨_,R',g',H',rfl,h2 _ _ hm,le,jO,pn,fr,Bl⟩
   ·rename_i e;exact⟨_,R',g',H',rfl,h3 _ _ hm (fun R2 e2=>by cases e2;exact e rfl),le,jO,pn,fr,Bl⟩
  case ret=>exact⟨_,R',g',H',rfl,h3 _ _ hm (by simp),le,jO,pn,fr,Bl⟩
 | @loop x R H Q M _ h2 h3 xk oj =>
  intro w0 g w a n an top code r hc ht ck sr hr
  obtain⟨c,rfl,k1⟩:=EX hc
  have key:rS (Fw r) 0 P c (mg w0 n x.loop.na a.defers (R n) g w H Q) a w:=by
   refine xZ (wpIn_mono (xk w0 g w a n an top c r k1 ht ck sr hr).1 fun e a' w' hp=>?_)
   obtain⟨ex,R',g',H',e1,hm,le,jO,pn,fr,xi,Bl⟩:=hp
   cases e<;>simp only[tP,Option.some.injEq,reduceCtorEq]at e1<;>subst e1
   case normal =>
    have:=(oj R' H' hm w0 g' w' a' n an top (.loop c) r hc ht (ck.mono le) jO pn).2 c rfl
    intro b k cs h1 h2 h4
    obtain⟨e,a2,w2,hq,oI⟩:=this b k cs h1 h2 h4
    exact⟨e,a2,w2,hq.trans le fr xi fun e=>⟨e,Bl e⟩,oI⟩
   case exit id=>exact⟨_,R',g',H',rfl,h3 _ _ hm (by simp),le,jO,pn,fr,xi,Bl⟩
   case ret=>exact⟨_,R',g',H',rfl,h3 _ _ hm (by simp),le,jO,pn,fr,xi,Bl⟩
  exact⟨CU key,fun body e=>by cases e;exact key⟩
 | @cZ m x ps cj body R H Q f cs M hx _ h2 ih =>
  intro w0 g w a n an top code r hc ht ck sr hr
  obtain⟨ZL,qs,c,d,rfl,k1,k2,k3,k4,k5,rfl,k7,rfl⟩:=CX hc
  obtain rfl:=ht k4
  refine⟨wpIn_rangeFunc fun fn _=>?_,by rintro _⟨⟩⟩
  have hv:VR g w (.fn f cs) (a.eval ZL):=by
   cases ZL with
   | tmp u=>simp only[aS,Option.some.injEq]at k1;subst k1;simp only[X.ev]at hx;rw[←hx];exact hr.2 u (k5 u (by simp[eA]))
   | const v =>
    simp only[aS,Option.map_eq_some_iff]at k1
    obtain⟨u,h1,rfl⟩:=k1
    simp only[X.ev]at hx;subst hx
    exact mN h1
   | «global» _=>simp[aS]at k1
   | func f'=>simp only[aS,Option.some.injEq]at k1;subst k1;simp only[X.ev]at hx;cases hx;exact .fn rfl (by simp)
  generalize hgv:a.eval ZL=vf at hv
  cases hv with
  | @fn _ _ vs hl tH =>
   obtain⟨g1,dG,OF,ZH,SI⟩:=sr.EJ (x:=.deferred (some [])) (y:=.AR) rfl (fun g' w' _ q1 q2 q3 r o q hq=>by rw[q2]at hq;cases hq;exact⟨q1,q3⟩)
   have bg:(w.alloc (.deferred (some []))).heap.size=w.heap.size+1:=by simp
   obtain⟨g2,KR,MO,Bh,A5⟩:=OF.EJ (x:=.loop { state:=.ready,pending:=none,fn,tmps:=a.tmps,params:=qs,assign:=c,body:=d,defers:=w.heap.size }) (y:=.loop .ready none m R qs.toList cj body) rfl
    (fun g' w' le q1 q2 q3 r o q hq=>by
     rw[q2]at hq;cases hq
     refine⟨q1,_,q3,rfl,rfl,rfl,hr.1,fun t ht=>((hr.2 t ht).mono dG).mono le,k7,?_,?_⟩
     ·rw[le.ck,dG.ck];exact(ck _ _ _).2 ⟨an,k2⟩
     ·rw[le.ck,dG.ck];exact(ck _ _ _).2 ⟨an,k3⟩)
   rw[bg]at A5
   have hlen:(H++[B.AR]).length=H.length+1:=by simp
   rw[hlen]at A5
   have rZ:H++[B.AR]++[B.loop .ready none m R qs.toList cj body]=H++[.AR,.loop .ready none m R qs.toList cj body]:=by simp
   rw[rZ]at MO Bh
   have OY:=dG.trans KR
   have T0:bL g2 ((w.alloc (.deferred (some []))).alloc (.loop { state:=.ready,pending:=none,fn,tmps:=a.tmps,params:=qs,assign:=c,body:=d,defers:=w.heap.size })) (.od (H.length+1) :: cs) (.func (.yield (w.heap.size+1)) #[] #[] :: vs.toList) :=
    bL.cons (.od A5) ⟨by simp[hl],fun i t v ha hb=>(tH i t v ha (by simpa using hb)).mono OY⟩
   obtain⟨kS,EZ⟩:=ih w0 g2 _ _ (ck.mono OY) MO T0
   refine⟨w.heap.size+1,[{ target:=.collected w.heap.size,args:=#[] }],((w.alloc (.deferred (some []))).alloc (.loop { state:=.ready,pending:=none,fn,tmps:=a.tmps,params:=qs,assign:=c,body:=d,defers:=w.heap.size })),{ target:=.fn (.func f) vs,args:=#[.func (.yield (w.heap.size+1)) #[] #[]] },((w.alloc (.deferred (some []))).alloc (.loop { state:=.ready,pending:=none,fn,tmps:=a.tmps,params:=qs,assign:=c,body:=d,defers:=w.heap.size })),f,#[.func (.yield (w.heap.size+1)) #[] #[]]++vs,((w.alloc (.deferred (some []))).alloc (.loop { state:=.ready,pending:=none,fn,tmps:=a.tmps,params:=qs,assign:=c,body:=d,defers:=w.heap.size })),run_enterLoop_outer _ _ _ _ _,?_,fun _ _=>trivial,?_,fun h=>by simp[Fw]at h,?_⟩
   ·simp only[resolve,hgv,Deferred.ofValue]
    simp[Act.eval]
   ·exact kR kS
   ·have e3:(.func (.yield (w.heap.size+1)) #[] #[] :: vs.toList:List Value).toArray=#[.func (.yield (w.heap.size+1)) #[] #[]]++vs:=by simp
    rw[e3]at EZ
    refine EZ.mono fun e w3 ⟨v,t,g3,H3,he,hM,Bi,CY,_,DX⟩=>?_
    subst he
    obtain⟨st,gk,cW,Yj,DZ,hQ⟩:=h2 _ _ hM
    have hφ3:=Bi.φ _ _ A5
    obtain⟨j1,rec,j2,j3,j4,j5,j6,j7,j8,j9,j10⟩:=CY.eG _ _ DZ _ _ _ hφ3
    obtain⟨Jn,Jo,DY⟩:=CY.vJ (y':=.dead) (x':=.loop { rec with state:=.exhausted }) DZ hφ3 j1 j2 rfl rfl (fun _ _ _=>trivial)
    refine⟨_,_,run_endLoop j2 (by rw[j3];cases st<;>simp[Oa.real]at cW ⊢),?_⟩
    generalize w3.putObj (w.heap.size+1) (.loop { rec with state:=.exhausted })=W4 at Jn Jo ⊢
    rw[j4]
    have OZ:=(OY.trans Bi).trans Jn
    have hFr:Fr g H g3 (H3.set (H.length+1) .dead):=by
     have:=(ZH.trans Bh).trans (DX.trans DY)
     exact this
    have post:∀e,tP e=some (Ea gk)→mg w0 m (C.cZ m x qs.toList cj body).na a.defers (R m) g w H Q e { a with defers:=[{ target:=.collected w.heap.size,args:=#[] }]++a.defers } W4:=by
     intro e he
     refine⟨_,_,g3,_,he,hQ,OZ,Jo,⟨hr.1,fun t ht=>?_⟩,hFr,fun hm=>?_,fun h=>by simp[C.na]at h⟩
     ·simp only[pj];rw[if_neg (Nat.ne_of_lt ht)];exact(hr.2 t ht).mono OZ
     ·obtain⟨ts,e1,e2⟩:=hm
      refine⟨.ptr H.length 0 :: ts,by simp[pj,e1,ou],.cons (((KR.trans Bi).trans Jn).φ _ _ SI) (e2.mono OZ)⟩
    cases hp:gk with
    | none=>simp only[xy];exact post .normal (by rw[hp];rfl)
    | some e =>
     rcases EY (e:=e) (by rintro rfl;exact Yj hp)with⟨id,rfl,e5⟩|⟨rfl,e5⟩
     ·simp only[e5];exact wpIn_exit (post (.exit id) (by rw[hp];rfl))
     ·simp only[e5];exact wpIn_ret (post .ret (by rw[hp];rfl))
 | @nil R H Q h =>
  refine⟨fun w0 g0 ws H0 g w a n ops mu is r hc ck sr hr le fr=>?_,fun w0 n ops mu df mk g0 ws H0 pre L g a w ord kQ r fuel ck h1 h2 hd hl=>?_⟩
  ·obtain rfl:=x8 hc
   exact⟨.normal,R,g,H,rfl,h,le,sr,hr,fr,rfl,rfl⟩
  ·have bD:=dk ord pre kQ h1
   cases kQ with
   | cons _ _=>simp at h2
   | nil=>exact CV (by simpa using bD) h fuel L g a w hl hd
 | @no o l R H Q hg _ ih =>
  refine⟨fun w0 g0 ws H0 g w a n ops mu is r hc ck sr hr le fr=>?_,fun w0 n ops mu df mk g0 ws H0 pre L g a w ord kQ r fuel ck h1 h2 hd hl=>?_⟩
  ·obtain⟨i,uJ,oper,rfl,ho,gl,gm⟩:=dL hc
   rw[wpOpsIn_cons]
   refine Bf ho gl hr.1 (hr.rg (qu gl)) hg ?_
   have:=ih.1 w0 g0 ws H0 g w (a.put o.d undef) n ops mu uJ r gm ck sr (hr.put (by obtain⟨_,_,_,_,e,_,h5⟩:=bB gl;rw[e];exact h5) (.refl _ _) iU) le fr
   rwa[jJ,cK (gT gl)]at this
  ·obtain⟨x,l',gA,oper,rfl,rfl,h3,hh,h4⟩:=iY h1 h2
   cases he:x.early with
   | true=>exact ih.2 w0 n ops mu df mk g0 ws H0 _ L g a w gA l' r fuel ck h4 h3 (hd.KN hh he hg) hl
   | false =>
    refine fy (Tl:=fun R' H'=>R'=bR R x.o.d cf∧H'=H) hh he (dk ord pre _ h1) (dJ gA _ l' h4) ?_ ?_ fuel L g a w hl hd
    ·rintro R' H'⟨rfl,rfl⟩ fuel L' g' a' w' hL iC
     exact ih.2 w0 n ops mu df mk g0 ws H0 _ L' g' a' w' gA l' r fuel (Bj hd iC ck) h4 h3 iC hL
    ·intro L g a w hd hp K hK
     exact Bf hh.ho hh.co hd.xj (hd.fz hh hp) hg (hK _ _ g _ w ⟨rfl,rfl⟩ (hd.both hh he hp (.refl _ _) hd.sr iU (.refl _ _) fun _ _ _ _ _ _ _ _ _ e=>e))
 | @op d b gd s l R H Q v H' hg hv hs _ ih =>
  refine⟨fun w0 g0 ws H0 g w a n ops mu is r hc ck sr hr le fr=>?_,fun w0 n ops mu df mk g0 ws H0 pre L g a w ord kQ r fuel ck h1 h2 hd hl=>?_⟩
  ·obtain⟨i,uJ,oper,rfl,ho,gl,gm⟩:=dL hc
   rw[wpOpsIn_cons]
   obtain⟨u,w',g',bN,nR,jO,gw,tn⟩:=Bg (r:=r) ho gl hr.1 (hr.rg (qu gl)) hg sr hv
   refine bN _ _ ?_
   have:=ih.1 w0 g0 ws H0 g' w' (a.put d u) n ops mu uJ r gm (ck.mono nR) jO (hr.put (by obtain⟨_,_,_,_,e,_,h5⟩:=bB gl;cases e;exact h5) nR gw) (le.trans nR) (fr.trans tn)
   rwa[jJ,cK (gT gl)]at this
  ·obtain⟨x,l',gA,oper,rfl,oM,h3,hh,h4⟩:=iY h1 h2
   have D0:x.o.d=d:=by rw[oM]
   cases he:x.early with
   | true =>
    have:=hd.KO hh he (b:=b) (by rw[oM]) (by rw[oM];exact hg) hv
    rw[D0]at this
    exact ih.2 w0 n ops mu df mk g0 ws H0 _ L g a w gA l' r fuel ck h4 h3 this hl
   | false =>
    refine fy (Tl:=fun R' H2=>R'=bR R d v∧H2=H') hh he (dk ord pre _ h1) (dJ gA _ l' h4) ?_ ?_ fuel L g a w hl hd
    ·rintro R' H'⟨rfl,rfl⟩ fuel L' g' a' w' hL iC
     exact ih.2 w0 n ops mu df mk g0 ws H0 _ L' g' a' w' gA l' r fuel (Bj hd iC ck) h4 h3 iC hL
    ·intro L2 g2 a2 w2 cE hp K hK
     have MP:gS P g2:=Bj hd cE ck
     have gl:=hh.co
     have qv:=cE.fz hh hp
     have cW:=cE.stays hh he hp (H':=H') (by rw[oM];exact hs)
     rw[oM]at gl qv
     obtain⟨u,w',g',bN,nR,jO,gw,tn⟩:=Bg (r:=r) hh.ho gl cE.xj qv hg cE.sr hv
     refine bN _ _ (hK _ _ g' _ w' ⟨rfl,rfl⟩ ?_)
     have:=cE.both hh he hp nR jO gw tn cW
     rwa[D0]at this
 | @call d f as gd s l R H Q M hg _ hs h2 xk oj =>
  refine⟨fun w0 g0 ws H0 g w a n ops mu is r hc ck sr hr le fr=>?_,fun w0 n ops mu df mk g0 ws H0 pre L g a w ord kQ r fuel ck h1 h2 hd hl=>?_⟩
  ·obtain⟨i,uJ,oper,rfl,ho,gl,gm⟩:=dL hc
   rw[wpOpsIn_cons]
   refine uG (r:=r) ho gl hr.1 (hr.rg (qu gl)) hg (fun args hv=>xk w0 g w args ck sr hv) fun u w' g' H' t hM nR jO gw tn=>?_
   have:=(oj t H' hM).1 w0 g0 ws H0 g' w' (a.put d u) n ops mu uJ r gm (ck.mono nR) jO (hr.put (by obtain⟨_,_,_,_,e,_,h5⟩:=bB gl;cases e;exact h5) nR gw) (le.trans nR) (fr.trans tn)
   rwa[jJ,cK (gT gl)]at this
  ·obtain⟨x,l',gA,oper,rfl,oM,h3,hh,h4⟩:=iY h1 h2
   have D0:x.o.d=d:=by rw[oM]
   cases he:x.early with
   | true=>exact absurd (by rw[oM];rfl) (hh.kl he).1
   | false =>
    refine fy (Tl:=fun R' H2=>∃v,M (.val v) H2∧R'=bR R d v) hh he (dk ord pre _ h1) (dJ gA _ l' h4) ?_ ?_ fuel L g a w hl hd
    ·rintro R' H'⟨v,hM,rfl⟩ fuel L' g' a' w' hL iC
     exact(oj v H' hM).2 w0 n ops mu df mk g0 ws H0 _ L' g' a' w' gA l' r fuel (Bj hd iC ck) h4 h3 iC hL
    ·intro L2 g2 a2 w2 cE hp K hK
     have MP:gS P g2:=Bj hd cE ck
     have gl:=hh.co
     have qv:=cE.fz hh hp
     rw[oM]at gl qv
     refine uG (r:=r) hh.ho gl cE.xj qv hg (fun args hv=>xk w0 g2 w2 args MP cE.sr hv) fun u w' g' H' t hM nR jO gw tn=>hK _ H' g' _ w' ⟨t,hM,rfl⟩ ?_
     have cW:=cE.stays hh he hp (H':=H') (by rw[oM];exact hs t H' hM)
     have:=cE.both hh he hp nR jO gw tn cW
     rwa[D0]at this
 | @bJ d xx f cs as gd s l R H Q M hg hf _ hs h2 xk oj =>
  refine⟨fun w0 g0 ws H0 g w a n ops mu is r hc ck sr hr le fr=>?_,fun w0 n ops mu df mk g0 ws H0 pre L g a w ord kQ r fuel ck h1 h2 hd hl=>?_⟩
  ·obtain⟨i,uJ,oper,rfl,ho,gl,gm⟩:=dL hc
   rw[wpOpsIn_cons]
   refine rT (r:=r) ho gl hr.1 (hr.rg (qu gl)) hg hf (fun args hv=>xk w0 g w args ck sr hv) fun u w' g' H' t hM nR jO gw tn=>?_
   have:=(oj t H' hM).1 w0 g0 ws H0 g' w' (a.put d u) n ops mu uJ r gm (ck.mono nR) jO (hr.put (by obtain⟨_,_,_,_,e,_,h5⟩:=bB gl;cases e;exact h5) nR gw) (le.trans nR) (fr.trans tn)
   rwa[jJ,cK (gT gl)]at this
  ·obtain⟨x,l',gA,oper,rfl,oM,h3,hh,h4⟩:=iY h1 h2
   have D0:x.o.d=d:=by rw[oM]
   cases he:x.early with
   | true=>exact absurd (by rw[oM];rfl) (hh.kl he).1
   | false =>
    refine fy (Tl:=fun R' H2=>∃v,M (.val v) H2∧R'=bR R d v) hh he (dk ord pre _ h1) (dJ gA _ l' h4) ?_ ?_ fuel L g a w hl hd
    ·rintro R' H'⟨v,hM,rfl⟩ fuel L' g' a' w' hL iC
     exact(oj v H' hM).2 w0 n ops mu df mk g0 ws H0 _ L' g' a' w' gA l' r fuel (Bj hd iC ck) h4 h3 iC hL
    ·intro L2 g2 a2 w2 cE hp K hK
     have MP:gS P g2:=Bj hd cE ck
     have gl:=hh.co
     have qv:=cE.fz hh hp
     rw[oM]at gl qv
     refine rT (r:=r) hh.ho gl cE.xj qv hg hf (fun args hv=>xk w0 g2 w2 args MP cE.sr hv) fun u w' g' H' t hM nR jO gw tn=>hK _ H' g' _ w' ⟨t,hM,rfl⟩ ?_
     have cW:=cE.stays hh he hp (H':=H') (by rw[oM];exact hs t H' hM)
     have:=cE.both hh he hp nR jO gw tn cW
     rwa[D0]at this
 | @od d xx b as gd s l R H Q m R0 ps cj body M1 M hg hf hb hn _ DK _ DL AV _ DM _ xk oj SJ SL =>
  refine⟨fun w0 g0 ws H0 g w a n ops mu is r hc ck sr hr le fr=>?_,fun w0 n ops mu df mk g0 ws H0 pre L g a w ord kQ r fuel ck h1 h2 hd hl=>?_⟩
  ·obtain⟨i,uJ,oper,rfl,ho,gl,gm⟩:=dL hc
   rw[wpOpsIn_cons]
   refine ya (r:=r) ho gl hr.1 (hr.rg (qu gl)) hg hf hb hn ck sr xk DK oj DL fun u w' g' H' t zF nR jO gw tn=>?_
   have T1:=hr.put (d:=d) (by obtain⟨_,_,_,_,e,_,h5⟩:=bB gl;cases e;exact h5) nR gw
   rcases zF with⟨R',H2,hM,rfl,rfl⟩|⟨e,R',H2,hM,bF,rfl,rfl⟩
   ·have:=(SJ R' H2 hM).1 w0 g0 ws H0 g' w' (a.put d u) n ops mu uJ r gm (ck.mono nR) jO T1 (le.trans nR) (fr.trans tn)
    rwa[jJ,cK (gT gl)]at this
   ·have:=(SL e R' H2 hM bF).1 w0 g0 ws H0 g' w' (a.put d u) n ops mu uJ r gm (ck.mono nR) jO T1 (le.trans nR) (fr.trans tn)
    rwa[jJ,cK (gT gl)]at this
  ·obtain⟨x,l',gA,oper,rfl,oM,h3,hh,h4⟩:=iY h1 h2
   have D0:x.o.d=d:=by rw[oM]
   cases he:x.early with
   | true=>exact absurd (by rw[oM];rfl) (hh.kl he).1
   | false =>
    refine fy (Tl:=fun R' H'=>(∃R2 H2,M (.ex .normal R2) H2∧R'=bR R d (.bool true)∧H'=H2.set b (.loop .ready none m R0 ps cj body))∨(∃e R2 H2,M (.ex e R2) H2∧e≠.normal∧R'=bR R d (.bool false)∧H'=H2.set b (.loop .done (some e) m R0 ps cj body)))
     hh he (dk ord pre _ h1) (dJ gA _ l' h4) ?_ ?_ fuel L g a w hl hd
    ·rintro R' H' (⟨R2,H2,hM,rfl,rfl⟩|⟨e,R2,H2,hM,bF,rfl,rfl⟩) fuel L' g' a' w' hL iC
     ·exact(SJ R2 H2 hM).2 w0 n ops mu df mk g0 ws H0 _ L' g' a' w' gA l' r fuel (Bj hd iC ck) h4 h3 iC hL
     ·exact(SL e R2 H2 hM bF).2 w0 n ops mu df mk g0 ws H0 _ L' g' a' w' gA l' r fuel (Bj hd iC ck) h4 h3 iC hL
    ·intro L2 g2 a2 w2 cE hp K hK
     have MP:gS P g2:=Bj hd cE ck
     have gl:=hh.co
     have qv:=cE.fz hh hp
     rw[oM]at gl qv
     refine ya (r:=r) hh.ho gl cE.xj qv hg hf hb hn MP cE.sr xk DK oj DL fun u w' g' H' t zF nR jO gw tn=>?_
     have lP:∀(hs:kz R H' s),Dr P n ops mu w0 df mk g0 ws H0 (pre++[x]) (L2.setIfInBounds x.i true) g' (bR R d t) H' (a2.put d u) w':=fun hs=>by
      have cW:=cE.stays hh he hp (H':=H') (by rw[oM];exact hs)
      have:=cE.both hh he hp nR jO gw tn cW
      rwa[D0]at this
     rcases zF with⟨R',H2,hM,rfl,rfl⟩|⟨e,R',H2,hM,bF,rfl,rfl⟩
     ·exact hK _ _ g' _ w' (.inl ⟨R',H2,hM,rfl,rfl⟩) (lP (AV R' H2 hM))
     ·exact hK _ _ g' _ w' (.inr ⟨e,R',H2,hM,bF,rfl,rfl⟩) (lP (DM e R' H2 hM bF))
 | @Cq d neg c xx yy s l R H Q hs _ hx hy hc ih =>
  subst hc
  subst hs
  refine⟨fun w0 g0 ws H0 g w a n ops mu is r hc ck sr hr le fr=>?_,fun w0 n ops mu df mk g0 ws H0 pre L g a w ord kQ r fuel ck h1 h2 hd hl=>?_⟩
  ·obtain⟨i,uJ,oper,rfl,ho,gl,gm⟩:=dL hc
   rw[wpOpsIn_cons]
   obtain⟨b,bN⟩:=uF (r:=r) ho gl hr.1 (hr.rg (qu gl)) rfl hx hy
   refine bN _ _ ?_
   have:=(ih b).1 w0 g0 ws H0 g w (a.put d (.bool b)) n ops mu uJ r gm ck sr (hr.put (by obtain⟨_,_,_,_,e,_,h5⟩:=bB gl;cases e;exact h5) (.refl _ _) (.bool b)) le fr
   rwa[jJ,cK (gT gl)]at this
  ·obtain⟨x,l',gA,oper,rfl,oM,h3,hh,h4⟩:=iY h1 h2
   have D0:x.o.d=d:=by rw[oM]
   cases he:x.early with
   | true =>
    have:=(hh.kl he).1
    rw[oM]at this
    exact absurd (by cases d<;>rfl) this
   | false =>
    refine fy (Tl:=fun R' H2=>∃b:Bool,R'=bR R d (.bool b)∧H2=H) hh he (dk ord pre _ h1) (dJ gA _ l' h4) ?_ ?_ fuel L g a w hl hd
    ·rintro R' H'⟨b,rfl,rfl⟩ fuel L' g' a' w' hL iC
     exact(ih b).2 w0 n ops mu df mk g0 ws H0 _ L' g' a' w' gA l' r fuel (Bj hd iC ck) h4 h3 iC hL
    ·intro L2 g2 a2 w2 cE hp K hK
     have MP:gS P g2:=Bj hd cE ck
     have gl:=hh.co
     have qv:=cE.fz hh hp
     rw[oM]at gl qv
     obtain⟨b,bN⟩:=uF (r:=r) hh.ho gl cE.xj qv rfl hx hy
     refine bN _ _ (hK _ H g2 _ w2 ⟨b,rfl,rfl⟩ ?_)
     have:=cE.both hh he hp (.refl _ _) cE.sr (.bool b) (.refl _ _) fun _ _ _ _ _ _ _ _ _ e=>e
     rwa[D0]at this
 | @qM d xx gd s l R H Q b bi es ix cur hg hx hb hs _ ih =>
  refine⟨fun w0 g0 ws H0 g w a n ops mu is r hc ck sr hr le fr=>?_,fun w0 n ops mu df mk g0 ws H0 pre L g a w ord kQ r fuel ck h1 h2 hd hl=>?_⟩
  ·obtain⟨i,uJ,oper,rfl,ho,gl,gm⟩:=dL hc
   rw[wpOpsIn_cons]
   obtain⟨t,H',u,w',g',hM,bN,nR,jO,gw,tn⟩:=x7 (r:=r) ho gl hr.1 (hr.rg (qu gl)) hg sr hx hb
   refine bN _ _ ?_
   have:=(ih t H' hM).1 w0 g0 ws H0 g' w' (a.put d u) n ops mu uJ r gm (ck.mono nR) jO (hr.put (by obtain⟨_,_,_,_,e,_,h5⟩:=bB gl;cases e;exact h5) nR gw) (le.trans nR) (fr.trans tn)
   rwa[jJ,cK (gT gl)]at this
  ·obtain⟨x,l',gA,oper,rfl,oM,h3,hh,h4⟩:=iY h1 h2
   have D0:x.o.d=d:=by rw[oM]
   cases he:x.early with
   | true =>
    have:=(hh.kl he).1
    rw[oM]at this
    exact absurd (by cases d<;>rfl) this
   | false =>
    refine fy (Tl:=fun R' H2=>∃v,ov H b bi es ix v H2∧R'=bR R d v) hh he (dk ord pre _ h1) (dJ gA _ l' h4) ?_ ?_ fuel L g a w hl hd
    ·rintro R' H'⟨v,hM,rfl⟩ fuel L' g' a' w' hL iC
     exact(ih v H' hM).2 w0 n ops mu df mk g0 ws H0 _ L' g' a' w' gA l' r fuel (Bj hd iC ck) h4 h3 iC hL
    ·intro L2 g2 a2 w2 cE hp K hK
     have MP:gS P g2:=Bj hd cE ck
     have gl:=hh.co
     have qv:=cE.fz hh hp
     rw[oM]at gl qv
     obtain⟨t,H',u,w',g',hM,bN,nR,jO,gw,tn⟩:=x7 (r:=r) hh.ho gl cE.xj qv hg cE.sr hx hb
     refine bN _ _ (hK _ H' g' _ w' ⟨t,hM,rfl⟩ ?_)
     have cW:=cE.stays hh he hp (H':=H') (by rw[oM];exact hs t H' hM)
     have:=cE.both hh he hp nR jO gw tn cW
     rwa[D0]at this
 | @shr f as H Q M _ h2 ih =>
  intro w0 g w args ck sr hv
  obtain⟨kS,hc⟩:=ih w0 g w args ck sr hv
  refine⟨kS,hc.mono fun e w3 ⟨v,t,g3,H3,he,hM,Bi,CY,gw,DX⟩=>?_⟩
  obtain⟨t',b,cs,k,ht,iI,hb,hq⟩:=h2 _ _ hM
  cases ht
  have hφ:∃x,g3.φ b=some x:=by
   cases gw with
   | aC h=>simp only[AU]at iI;subst iI;exact⟨_,h⟩
   | bC hl h2 =>
    obtain⟨off,len,n,hm⟩:=iI
    obtain⟨i,hi⟩:=List.mem_iff_getElem?.1 hm
    have aq:=(List.getElem?_eq_some_iff.1 hi).1
    obtain⟨u,hu⟩:∃u,(Array.mk _)[i]?=some u:=⟨_,Array.getElem?_eq_getElem (Nat.lt_of_lt_of_eq aq hl.symm)⟩
    have:=h2 i _ _ hi hu
    cases this with
    | aC h=>exact⟨_,h⟩
   | _=>exact iI.elim
  obtain⟨Jo,DY⟩:=CY.shrink k hb hφ
  exact⟨v,_,g3,_,he,hq,Bi,Jo,gw,DX.trans DY⟩
 | @Sr f as H Q fn M hf hn _ h2 ih =>
  intro w0 g w args ck sr hv
  obtain⟨an,xl⟩:=hE.fn f fn hf
  obtain⟨F,code,res,body,hF,hb,rV,vG,kS,bg,aq,rfl⟩:=rX xl
  refine⟨kS,callsIn_of_wp_marks hF hb trivial ?_⟩
  have O0:=rY (F:=F) hv hn bg
  refine wpIn_mono (ih w0 g w _ F.ntmps an true code none vG (fun _=>rfl) ck sr O0).1 fun e a' w' E0=>?_
  obtain⟨ex,R',g',H',e1,hm,le,jO,pn,fr,xi,_⟩:=E0
  obtain⟨R2,bs,hex,TX,fH,KS,v0,O1,hq⟩:=h2 _ _ hm
  have ZM:Mk g (iq as F.ntmps) []:=⟨[],by simp only[iq];rw[List.getD_eq_getElem?_getD,List.getElem?_eq_none (by simp only at hn;omega)];rfl,.nil⟩
  obtain⟨ts,CO,hmo⟩:=xi ZM
  have vN:R2=R'→LeavesInM (Fw none) 0 P F a'.tmps (uE w0 g w H fun v H'=>Q (.val v) H') a'.defers .returning w':=by
   rintro rfl
   simp only at TX hq O1
   rw[CO]at TX
   refine vM ts a'.defers bs g' H' w' R2 a' _ hmo TX fH KS jO pn (fun w2 v KR MO _ Bh _ gw=>⟨v,_,g',_,rfl,hq,le.trans KR,MO,gw,fr.trans Bh⟩) O1 fun g w H sr hr ht=>rW (P:=P) sr rV aq hr ht
  cases e<;>simp only[tP,Option.some.injEq,reduceCtorEq]at e1<;>subst e1
  case normal=>rcases hex with hex|hex<;>cases hex;exact vN rfl
  case exit id=>rcases hex with hex|hex<;>cases hex
  case ret=>rcases hex with hex|hex<;>cases hex;exact vN rfl
 | @fn f as H Q fn M hf hnr hn _ h2 ih =>
  intro w0 g w args ck sr hv
  obtain⟨an,xl⟩:=hE.fn f fn hf
  obtain⟨F,code,res,body,hF,hb,rV,vG,kS,bg,aq,rfl⟩:=rX xl
  refine⟨kS,callsIn_of_wp hF hb trivial ?_⟩
  have O0:=rY (F:=F) hv hn bg
  refine wpIn_mono (ih w0 g w _ F.ntmps an true code none vG (fun _=>rfl) ck sr O0).1 fun e a' w' E0=>?_
  obtain⟨ex,R',g',H',e1,hm,le,jO,pn,fr,_,Bl⟩:=E0
  obtain⟨R2,hex,v0,O1,hq⟩:=h2 _ _ hm
  have vN:∀(R2:ax),R2=R'→qB R2 H' res=some v0→a'.defers=[]∧∃v,(results F a'.tmps).run P w'=.ok v w'∧uE w0 g w H (fun v H'=>Q (.val v) H') (.returned v) w':=by
   rintro R2 rfl O1
   obtain⟨v,cF,gw⟩:=rW (P:=P) jO rV aq pn O1
   exact⟨(Bl hnr).2,v,cF,v,_,g',H',rfl,hq,le,jO,gw,fr⟩
  cases e<;>simp only[tP,Option.some.injEq,reduceCtorEq]at e1<;>subst e1
  case normal=>rcases hex with hex|hex<;>cases hex;exact vN _ rfl O1
  case exit id=>rcases hex with hex|hex<;>cases hex
  case ret=>rcases hex with hex|hex<;>cases hex;exact vN _ rfl O1
 | @Cr f as H Q b off len n i M hi _ h2 ih =>
  intro w0 g w args ck sr hv
  have aq:=(List.getElem?_eq_some_iff.1 hi).1
  have hl:=hv.1
  have T2:=hv.2 i _ _ hi (List.getElem?_eq_getElem (by omega))
  have hex:∃c,len≤c∧VR g w (.eH b off len n c) (args[i]'(by omega)):=by
   generalize args[i]'(by omega)=u at T2
   cases T2 with
   | aC h hc hq=>exact⟨_,hc,.eH h hc hq⟩
  obtain⟨c,hc,Jj⟩:=hex
  have Bb:bL g w (as.set i (.eH b off len n c)) args:=⟨by simp[hl],fun j t v ha hb=>by
   by_cases e:j=i
   ·subst e
    rw[List.getElem?_set_self aq]at ha
    cases ha
    rw[List.getElem?_eq_getElem (by omega)]at hb
    cases hb
    exact Jj
   ·rw[List.getElem?_set_ne (Ne.symm e)]at ha
    exact hv.2 j t v ha hb⟩
  obtain⟨kS,vG⟩:=ih c hc w0 g w args ck sr Bb
  refine⟨kS,vG.mono fun e w3 ⟨v,t,g3,H3,he,hM,Bi,CY,gw,DX⟩=>?_⟩
  exact⟨v,_,g3,H3,he,h2 _ _ hM,Bi,CY,gw.xv,DX⟩
 | @qN f as H Q M _ h2 ih =>
  intro w0 g w args ck sr hv
  obtain⟨kS,hc⟩:=ih w0 g w args ck sr hv
  refine⟨kS,hc.mono fun e w3 ⟨v,t,g3,H3,he,hM,Bi,CY,gw,DX⟩=>?_⟩
  obtain⟨t',b,cs,ht,iI,hb,hq⟩:=h2 _ _ hM
  cases ht
  have hφ:∃x,g3.φ b=some x:=by
   cases gw with
   | aC h=>simp only[AU]at iI;subst iI;exact⟨_,h⟩
   | bC hl h2 =>
    obtain⟨off,len,n,hm⟩:=iI
    obtain⟨i,hi⟩:=List.mem_iff_getElem?.1 hm
    have aq:=(List.getElem?_eq_some_iff.1 hi).1
    obtain⟨u,hu⟩:∃u,(Array.mk _)[i]?=some u:=⟨_,Array.getElem?_eq_getElem (Nat.lt_of_lt_of_eq aq hl.symm)⟩
    have:=h2 i _ _ hi hu
    cases this with
    | aC h=>exact⟨_,h⟩
   | _=>exact iI.elim
  obtain⟨g4,Jn,Jo,DY,O2⟩:=CY.freeze hb hφ
  exact⟨v,_,g4,_,he,hq,Bi.trans Jn,Jo,O2 _ _ gw,DX.trans DY⟩
 | @Cs f as H Q b off len n cs i hi hb _ ih =>
  intro w0 g w args ck sr hv
  have aq:=(List.getElem?_eq_some_iff.1 hi).1
  have hl:=hv.1
  have T2:=hv.2 i _ _ hi (List.getElem?_eq_getElem (by omega))
  have hφ:∃x,g.φ b=some x:=by
   generalize args[i]'(by omega)=u at T2
   cases T2 with
   | aC h=>exact⟨_,h⟩
  obtain⟨g4,Jn,Jo,DY,O2⟩:=sr.freeze hb hφ
  have Bb:bL g4 w (as.map (zx b cs)) args:=⟨by simp[hl],fun j t v ha jN=>by
   rw[List.getElem?_map]at ha
   obtain⟨t0,h0,rfl⟩:=Option.map_eq_some_iff.1 ha
   exact O2 _ _ (hv.2 j t0 v h0 jN)⟩
  obtain⟨kS,hc⟩:=ih w0 g4 w args (ck.mono Jn) Jo Bb
  exact⟨kS,hc.mono fun e w3 ⟨v,t,g3,H3,he,hM,Bi,CY,gw,DX⟩=>⟨v,t,g3,H3,he,hM,Jn.trans Bi,CY,gw,DY.trans DX⟩⟩
 | @pr f as H Q h =>
  intro w0 g w args ck sr hv
  exact hE.pr f as H _ h w0 g w args sr hv
inductive Sh where
 | int (k:IntKind)|str|bool
 | sl (l:List Sh)
 | ag (l:List Sh)
def CZ (P:Program)(f:TypeId→Option (List Sh)):List Field→Nat→Option (List Sh)
 | [],_=>some []
 | x :: xs,off=>match f x.type with
  | some l=>if x.offset=off∧l.length=P.cellsOf x.type then(CZ P f xs (off+l.length)).map (l++·)else none
  | none=>none
def Bm (k:Nat)(e:TypeId)(c:Nat):List Field:=(List.range k).map fun i=>{ (default:Field)with type:=e,offset:=i*c }
def tT (P:Program):Nat→TypeId→Option (List Sh)
 | 0,_=>none
 | n+1,t=>match P.underlying t with
  | some .bool=>some [.bool]
  | some (.int k)=>some [.int k]
  | some .string=>some [.str]
  | some (.slice e)=>match tT P n e with
   | some l=>if l.length=P.cellsOf e∧l.length≠0 then some [.sl l]else none
   | none=>none
  | some (.struct fs)=>match CZ P (tT P n) fs.toList 0 with
   | some l=>if l.length=P.cellsOf t then some l else none
   | none=>none
  | some (.array k e)=>match CZ P (tT P n) (Bm k e (P.cellsOf e)) 0 with
   | some l=>if l.length=P.cellsOf t then some l else none
   | none=>none
  | _=>none
inductive fV (B:Nat):Sh→T→Prop
 | int {k n} (h:(Lit.int k n).wf=true):fV B (.int k) (.int k n)
 | bool (b):fV B .bool (.bool b)
 | str {s:ByteArray} (h:s.size≤maxLen) (hB:s.size≤B):fV B .str (.str s)
 | nil {l}:fV B (.sl l) (.sl .nil [])
 | sl {l es} (hl:es.length≤maxLen) (hB:es.length≤B) (h0:∀c∈es,c.length=l.length) (h:∀c∈es,∀(j:Nat) (s:Sh) (t:T),l[j]?=some s→c[j]?=some t→fV B s t):fV B (.sl l) (.sl .arg es)
 | ag {l cs} (hl:cs.length=l.length) (h:∀(j:Nat) (s:Sh) (t:T),l[j]?=some s→cs[j]?=some t→fV B s t):fV B (.ag l) (.agg cs)
mutual
def T.bk:T→Nat
 | .str s=>s.size+1
 | .sl _ es=>SM es+1
 | _=>1
def tp:List T→Nat
 | []=>0
 | t :: ts=>t.bk+tp ts
def SM:List (List T)→Nat
 | []=>0
 | c :: es=>tp c+SM es
end
theorem KV (a b:List T):tp (a++b)=tp a+tp b:=by
 induction a with
 | nil=>simp[tp]
 | cons t a ih=>simp only[List.cons_append,tp,ih];omega
mutual
def b8 {H:Type}:DataW H→Nat
 | .lit (.string bytes)=>bytes.length+1
 | .lit _=>1
 | .nil=>1
 | .ptr d=>b8 d+1
 | .slice elems spare=>bS elems+bS spare+1
 | .agg parts=>bS parts+1
 | .iface _ d=>b8 d+1
 | .map entries=>fW entries+1
 | .held _=>1
def bS {H:Type}:List (DataW H)→Nat
 | []=>0
 | d :: r=>b8 d+bS r
def fW {H:Type}:List (Lit×DataW H)→Nat
 | []=>0
 | x :: r=>nT x+fW r
def nT {H:Type}:Lit×DataW H→Nat
 | (.string bytes,d)=>bytes.length+b8 d+1
 | (_,d)=>b8 d+1
end
theorem mj {H:Type}(d:DataW H):1≤b8 d:=by
 cases d with
 | lit l=>cases l<;>simp[b8]
 | _=>simp[b8]
theorem pP {H:Type}{d:DataW H}{l:List (DataW H)}(h:d∈l):b8 d≤bS l:=by
 induction l with
 | nil=>cases h
 | cons x r ih =>
  simp only[bS]
  rcases List.mem_cons.1 h with rfl|h
  ·omega
  ·have:=ih h;omega
theorem E1 {H:Type}:∀(es:List (List T)) (ds:List (DataW H)),es.length≤ds.length→(∀(i:Nat) c d,es[i]?=some c→ds[i]?=some d→tp c≤b8 d)→SM es≤bS ds
 | [],_,_,_=>by simp[SM]
 | c :: es,[],h,_=>by simp at h
 | c :: es,d :: ds,h,hk=>by
  have h1:=hk 0 c d rfl rfl
  have h2:=E1 es ds (by simpa using h) fun i c d a b=>hk (i+1) c d (by simpa using a) (by simpa using b)
  simp only[SM,bS];omega
theorem E2 {H:Type}(l:List (DataW H)):l.length≤bS l:=by
 induction l with
 | nil=>simp
 | cons x r ih=>have:=mj x;simp only[bS,List.length_cons];omega
def g0 (P:Program)(W:World):Ctx:=⟨fun _=>none,fun r _=>if r<W.heap.size then .nf else .free,fun _ _=>none,fun n c k=>∃an,bE P n an false k=some c⟩
theorem sr0 (P:Program)(W:World):SR W (g0 P W) [] W where
 size:=Nat.le_refl _
 kC _ _:=rfl
 Cv r o h:=by simp[g0,h]
 fresh r o h:=by simp only[g0];rw[if_neg (by omega)]
 tF b x h:=by simp[g0]at h
 jH t e x h:=by simp[g0]at h
 eG b x h:=by simp at h
 qN r j h:=dI h
 env:=⟨rfl,rfl⟩
theorem ck0 (P:Program)(W:World):gS P (g0 P W):=fun _ _ _=>Iff.rfl
theorem Bn {α:Type}{Q:Nat→α→Prop}:∀(n:Nat),(∀i,i<n→∃c,Q i c)→∃l:List α,l.length=n∧∀(i:Nat) (c:α),l[i]?=some c→Q i c
 | 0,_=>⟨[],rfl,by simp⟩
 | n+1,h=>by
  obtain⟨l,hl,hq⟩:=Bn n fun i hi=>h i (by omega)
  obtain⟨c,hc⟩:=h n (by omega)
  refine⟨l++[c],by simp[hl],fun i d hd=>?_⟩
  by_cases hi:i<n
  ·rw[List.getElem?_append_left (by omega)]at hd;exact hq i d hd
  ·rw[List.getElem?_append_right (by omega)]at hd
   have:i=n:=by
    have:=(List.getElem?_eq_some_iff.1 hd).1;simp at this;omega
   subst this;simp[hl]at hd;subst hd;exact hc
section
variable {H:Type} {enc:TypeId×Value→H} {P:Program} {W:World} {held:Bool} {B:Nat}
theorem yd {a:Addr}{n:Nat}{cs:List Value}(h:W.cells? 0 a n=some cs):cs.length=n∧∀(j:Nat) (v:Value),cs[j]?=some v→W.cell? (a.add j)=some v:=by
 unfold World.cells? at h
 rw[if_pos (Nat.zero_le _)]at h
 have key:∀(n:Nat) (cs:List Value),(List.range n).mapM (fun i=>W.cell? (a.add i))=some cs→cs.length=n∧∀(j:Nat) (v:Value),cs[j]?=some v→W.cell? (a.add j)=some v:=by
  intro n
  induction n with
  | zero=>intro cs h;simp at h;subst h;simp
  | succ n ih =>
   intro cs h
   rw[List.range_succ,List.mapM_append]at h
   cases h1:(List.range n).mapM (fun i=>W.cell? (a.add i))with
   | none=>simp[h1]at h
   | some l =>
    cases h2:W.cell? (a.add n)with
    | none=>simp[h1,h2]at h
    | some v =>
     simp[h1,h2]at h
     subst h
     obtain⟨k1,k2⟩:=ih l h1
     refine⟨by simp[k1],fun j u hj=>?_⟩
     by_cases zM:j<n
     ·rw[List.getElem?_append_left (by omega)]at hj;exact k2 j u hj
     ·rw[List.getElem?_append_right (by omega)]at hj
      have:j=n:=by
       have:=(List.getElem?_eq_some_iff.1 hj).1;simp at this;omega
      subst this;simp[k1]at hj;subst hj;exact h2
 exact key n cs h
def Reads (enc:TypeId×Value→H)(P:Program)(W:World)(held:Bool)(B:Nat)(t:TypeId)(l:List Sh):Prop :=
 ∀fuel cs d ps,DataW.trod enc P W 0 (fun _=>true) held fuel t cs=some (d,ps)→b8 d≤B→cs.length=l.length∧∃ts:List T,bL (g0 P W) W ts cs∧cI ts∧(∀(j:Nat) (s:Sh) (t:T),l[j]?=some s→ts[j]?=some t→fV B s t)∧tp ts≤b8 d
theorem kW {f:TypeId→Option (List Sh)}{n:Nat}{cs:List Value}:∀(fs:List Field) (off:Nat) (l:List Sh) (xs:List (DataW H×List MemPlace)),CZ P f fs off=some l→(∀x∈fs,∀l',f x.type=some l'→Reads enc P W held B x.type l') →
  xs.length=fs.length→(∀(i:Nat) (x:Field),fs[i]?=some x→DataW.trod enc P W 0 (fun _=>true) held n x.type ((cs.drop x.offset).take (P.cellsOf x.type))=xs[i]?)→(∀x∈xs,b8 x.1≤B)→off+l.length≤cs.length →
  ∃ts:List T,bL (g0 P W) W ts ((cs.drop off).take l.length)∧cI ts∧(∀(j:Nat) (s:Sh) (t:T),l[j]?=some s→ts[j]?=some t→fV B s t)∧tp ts≤bS (xs.map (·.1))
 | [],off,l,xs,h,_,_,_,_,_=>by
  simp only[CZ,Option.some.injEq]at h;subst h
  exact⟨[],by simpa using bL.nil,by simp[cI],by simp,by simp[tp]⟩
 | x :: fs,off,l,xs,h,hr,hl,ht,hb,hle=>by
  simp only[CZ]at h
  split at h
  ·rename_i l1 h1
   split at h
   ·rename_i hc
    simp only[Option.map_eq_some_iff]at h
    obtain⟨l2,h2,rfl⟩:=h
    cases xs with
    | nil=>simp at hl
    | cons y xs =>
     have t0:=ht 0 x rfl
     simp only[List.getElem?_cons_zero]at t0
     obtain⟨d,ps⟩:=y
     obtain⟨a1,ts1,a2,a3,a4,a5⟩:=hr x (by simp) l1 h1 n _ d ps t0 (hb (d,ps) (by simp))
     obtain⟨ts2,b2,b3,b4,b5⟩:=kW fs (off+l1.length) l2 xs h2 (fun z hz=>hr z (by simp[hz])) (by simpa using hl) (fun i z hz=>by have:=ht (i+1) z (by simpa using hz);simpa using this) (fun z hz=>hb z (by simp[hz])) (by simp at hle;omega)
     have e1:(cs.drop off).take (l1++l2).length=(cs.drop x.offset).take (P.cellsOf x.type)++(cs.drop (off+l1.length)).take l2.length:=by
      rw[hc.1,←hc.2,List.length_append,List.take_add,List.drop_drop]
     have T3:ts1.length=l1.length:=by rw[a2.1,a1]
     refine⟨ts1++ts2,by rw[e1];exact a2.append b2,fun t ht=>?_,fun j s t hs ht=>?_,by rw[KV];simp only[List.map_cons,bS];omega⟩
     ·rcases List.mem_append.1 ht with h|h
      ·exact a3 t h
      ·exact b3 t h
     ·by_cases hj:j<l1.length
      ·rw[List.getElem?_append_left hj]at hs
       rw[List.getElem?_append_left (by omega)]at ht
       exact a4 j s t hs ht
      ·rw[List.getElem?_append_right (by omega)]at hs
       rw[List.getElem?_append_right (by omega),T3]at ht
       exact b4 _ s t hs ht
   ·cases h
  ·cases h
theorem O3 {r o:Nat}{v:Value}(h:W.cell? ⟨r,o,none⟩=some v):Ct (g0 P W) W r o v:=⟨by simp[g0,kD h],h⟩
theorem reads:∀(n:Nat) (t:TypeId) (l:List Sh),tT P n t=some l→Reads enc P W held B t l
 | 0,_,_,h=>by simp[tT]at h
 | n+1,t,l,h=>by
  intro fuel cs d ps hd hb
  simp only[tT]at h
  split at h
  ·rename_i hu;cases h
   obtain⟨b,rfl,hx⟩:=DataW.trod_bool hu hd
   exact⟨rfl,[.bool b],bL.cons (.bool b) bL.nil,by simp[cI,T.one],fun j s t hs ht=>by cases j with
    | zero=>simp at hs ht;subst hs;subst ht;exact .bool b
    | succ j=>simp at hs,by have:=mj d;simp only[tp,T.bk];omega⟩
  ·rename_i k hu;cases h
   obtain⟨m,rfl,hx,hw⟩:=DataW.trod_int hu hd
   exact⟨rfl,[.int k m],bL.cons (.int k m) bL.nil,by simp[cI,T.one],fun j s t hs ht=>by cases j with
    | zero=>simp at hs ht;subst hs;subst ht;exact .int hw
    | succ j=>simp at hs,by have:=mj d;simp only[tp,T.bk];omega⟩
  ·rename_i hu;cases h
   obtain⟨s,rfl,hx,hw⟩:=DataW.trod_string hu hd
   cases hx
   exact⟨rfl,[.str s],bL.cons (.str s) bL.nil,by simp[cI,T.one],fun j s' t hs ht=>by cases j with
    | zero=>simp at hs ht;subst hs;subst ht;exact .str hw (by simp[b8]at hb;have:s.data.size=s.size:=rfl;omega)
    | succ j=>simp at hs,by simp only[tp,T.bk,b8];have:s.data.size=s.size:=rfl;simp⟩
  ·rename_i e hu
   split at h
   ·rename_i le he
    split at h
    ·rename_i hc
     cases h
     have ih:=reads n e le he
     rcases DataW.trod_slice hu hd with⟨rfl,hx⟩|⟨a,len,cap,elems,rest,m,_,rfl,hx,_,h1,h2,h3,h4,h5,_⟩
     ·exact⟨rfl,[.sl .nil []],bL.cons .slnil bL.nil,by simp[cI,T.one],fun j s t hs ht=>by cases j with
       | zero=>simp at hs ht;subst hs;subst ht;exact .nil
       | succ j=>simp at hs,by have:=mj d;simp only[tp,T.bk,SM];omega⟩
     ·cases hx
      have T4:∀x∈elems,b8 x.1≤B:=fun x hx=>by
       have:=pP (List.mem_map_of_mem (f:=(·.1)) hx);simp only[b8]at hb;omega
      have hlB:len≤B:=by
       have:=E2 (elems.map (·.1));simp only[b8]at hb;simp at this;omega
      have EE:∀i,i<len→∃c:List T,c.length=le.length∧∃us,W.cells? 0 (a.add (i*P.cellsOf e)) (P.cellsOf e)=some us∧bL (g0 P W) W c us∧cI c∧(∀(j:Nat) (s:Sh) (t:T),le[j]?=some s→c[j]?=some t→fV B s t)∧∀d,(elems.map (·.1))[i]?=some d→tp c≤b8 d:=by
       intro i hi
       have hk:=h4 i hi
       have lF:i<elems.length:=by omega
       rw[List.getElem?_eq_getElem lF]at hk
       obtain⟨us,k1,k2⟩:=Option.bind_eq_some_iff.1 hk
       obtain⟨q1,ts,q2,q3,q4,q5⟩:=ih m us elems[i].1 elems[i].2 k2 (T4 _ (List.getElem_mem lF))
       exact⟨ts,by rw[q2.1,q1],us,k1,q2,q3,q4,fun d hd=>by rw[List.getElem?_map,List.getElem?_eq_getElem lF]at hd;simp only[Option.map_some,Option.some.injEq]at hd;subst hd;exact q5⟩
      obtain⟨es,he1,MQ⟩:=Bn len EE
      have E3:fV B (.sl le) (.sl .arg es):=.sl (by omega) (by omega) (fun c hc=>by
       obtain⟨i,hi,rfl⟩:=List.getElem_of_mem hc
       exact(MQ i _ (List.getElem?_eq_getElem hi)).1) (fun c hc=>by
       obtain⟨i,hi,rfl⟩:=List.getElem_of_mem hc
       obtain⟨_,_,_,_,_,q,_⟩:=MQ i _ (List.getElem?_eq_getElem hi)
       exact q)
      have gw:VR (g0 P W) W (.sl .arg es) (.slice (some a) len cap):=by
       by_cases oB:cap=0
       ·have:len=0:=by omega
        subst this;subst oB
        have:es=[]:=List.eq_nil_of_length_eq_zero he1
        subst this;exact .jw _
       ·have MR:a.spot=none:=by
         have l4:∃us,W.cells? 0 (a.add (0*P.cellsOf e)) (P.cellsOf e)=some us:=by
          by_cases hl:0<len
          ·obtain⟨_,_,us,k,_⟩:=EE 0 hl;exact⟨us,k⟩
          ·have h0:len=0:=by omega
           obtain⟨k1,k2⟩:=h5 rfl
           have:=k2 0 (by omega)
           have hr:0<rest.length:=by omega
           rw[List.getElem?_eq_getElem hr,h0]at this
           obtain⟨us,k3,_⟩:=Option.bind_eq_some_iff.1 this
           exact⟨us,by simpa using k3⟩
         obtain⟨us,hus⟩:=l4
         obtain⟨k1,k2⟩:=yd hus
         have OD:0<us.length:=by omega
         have nI:=k2 0 us[0] (List.getElem?_eq_getElem OD)
         unfold World.cell? at nI
         split at nI
         ·split at nI
          ·cases nI
          ·rename_i AZ;simpa[Addr.add]using AZ
         ·cases nI
        obtain⟨r,o,sp⟩:=a
        simp only at MR;subst MR
        rw[←he1]
        have hn:∀c∈es,c.length=le.length:=fun c hc=>by
         obtain⟨i,hi,rfl⟩:=List.getElem_of_mem hc
         exact(MQ i _ (List.getElem?_eq_getElem hi)).1
        have l4:∀(i j:Nat) (c:List T) (t:T),es[i]?=some c→c[j]?=some t→∃v,W.cell? ⟨r,o+i*le.length+j,none⟩=some v∧VR (g0 P W) W t v∧t.one=true:=by
         intro i j c t hi hj
         obtain⟨q1,us,q2,q3,q4,_⟩:=MQ i c hi
         obtain⟨k1,k2⟩:=yd q2
         have hju:j<us.length:=by rw[←q3.1];exact(List.getElem?_eq_some_iff.1 hj).1
         refine⟨us[j],?_,q3.2 j t _ hj (List.getElem?_eq_getElem hju),q4 t (List.mem_of_getElem? hj)⟩
         have:=k2 j us[j] (List.getElem?_eq_getElem hju)
         rw[←hc.1,dA,dA]at this
         exact this
        refine .sl (n:=le.length) (fun i j=>(W.cell? ⟨r,o+i*le.length+j,none⟩).getD undef) trivial (by omega) hn (fun i j c t hi hj=>?_) (fun i j c t hi hj=>?_)
        ·obtain⟨v,q1,q2,q3⟩:=l4 i j c t hi hj
         exact⟨q3,by rw[q1];exact O3 q1⟩
        ·obtain⟨v,q1,q2,q3⟩:=l4 i j c t hi hj
         rw[q1];exact q2
      exact⟨rfl,[.sl .arg es],bL.cons gw bL.nil,by simp[cI,T.one],fun j s t hs ht=>by cases j with
       | zero=>simp at hs ht;subst hs;subst ht;exact E3
       | succ j=>simp at hs,by
       have SN:=E1 es (elems.map (·.1)) (by simp;omega) fun i c d hc hd=>by
        obtain⟨_,_,_,_,_,_,q⟩:=MQ i c hc
        exact q d hd
       simp only[tp,T.bk,b8];omega⟩
    ·cases h
   ·cases h
  ·rename_i fs hu
   split at h
   ·rename_i l' zY
    split at h
    ·rename_i hc
     cases h
     obtain⟨xs,m,_,hx,k1,k2,k3⟩:=DataW.trod_struct hu hd
     cases hx
     have T4:∀x∈xs,b8 x.1≤B:=fun x hx=>by
      have:=pP (List.mem_map_of_mem (f:=(·.1)) hx);simp only[b8]at hb;omega
     obtain⟨ts,a1,a2,a3,a4⟩:=kW (n:=m) (cs:=cs) fs.toList 0 l xs zY (fun x _ l2 h2=>reads n x.type l2 h2) (by simpa using k2) (fun i x hi=>k3 i x (by simpa using hi)) T4 (by omega)
     have e1:(cs.drop 0).take l.length=cs:=by rw[List.drop_zero,hc,←k1];simp
     rw[e1]at a1
     exact⟨by omega,ts,a1,a2,a3,by simp only[b8];omega⟩
    ·cases h
   ·cases h
  ·rename_i k e hu
   split at h
   ·rename_i l' zY
    split at h
    ·rename_i hc
     cases h
     obtain⟨xs,m,_,hx,k1,k2,k3⟩:=DataW.trod_array hu hd
     cases hx
     have T4:∀x∈xs,b8 x.1≤B:=fun x hx=>by
      have:=pP (List.mem_map_of_mem (f:=(·.1)) hx);simp only[b8]at hb;omega
     obtain⟨ts,a1,a2,a3,a4⟩:=kW (n:=m) (cs:=cs) (Bm k e (P.cellsOf e)) 0 l xs zY (fun x hx l2 h2=>by
      obtain⟨i,_,rfl⟩:=List.mem_map.1 hx;exact reads n e l2 h2) (by rw[k2];simp[Bm]) (fun i x hi=>by
      simp only[Bm,List.getElem?_map,Option.map_eq_some_iff]at hi
      obtain⟨j,hj,rfl⟩:=hi
      obtain⟨h1,h2⟩:=List.getElem?_eq_some_iff.1 hj
      rw[List.getElem_range]at h2
      subst h2
      exact k3 i (by simpa using h1)) T4 (by omega)
     have e1:(cs.drop 0).take l.length=cs:=by rw[List.drop_zero,hc,←k1];simp
     rw[e1]at a1
     exact⟨by omega,ts,a1,a2,a3,by simp only[b8];omega⟩
    ·cases h
   ·cases h
  ·cases h
def E4 (P:Program)(t:TypeId):Option Sh:=match P.underlying t with
 | some .bool|some (.int _)|some .string|some (.slice _)=>match tT P 9 t with
  | some [s]=>some s
  | _=>none
 | some (.struct _)|some (.array _ _)=>match tT P 9 t with
  | some l=>some (.ag l)
  | none=>none
 | _=>none
def pQ (P:Program):List TypeId→Option (List Sh)
 | []=>some []
 | t :: ts=>match E4 P t,pQ P ts with
  | some s,some l=>some (s :: l)
  | _,_=>none
inductive nU (B:Nat):List Sh→List T→Prop
 | nil:nU B [] []
 | cons {s t ss ts} (h:fV B s t) (hs:nU B ss ts):nU B (s :: ss) (t :: ts)
theorem E5 {base:Nat}{t:TypeId}{s:Sh}{v:Value}{d:DataW H}{p:List MemPlace}(h:E4 P t=some s)(hv:Value.okWide P W .any base t v)(hf:DataW.Trod enc P W 0 (fun _=>true) held t v d p)(hB:b8 d≤B) :
  ∃u:T,VR (g0 P W) W u v∧fV B s u∧u.bk≤b8 d:=by
 obtain⟨fuel,hf⟩:=hf
 have one:(∀cs,v≠.agg cs)→v.cells.toList=[v]:=by
  intro h;cases v<;>first|rfl|exact absurd rfl (h _)
 have sc:v.cells.toList=[v]→(match tT P 9 t with|some [s]=>some s|_=>none)=some s→∃u:T,VR (g0 P W) W u v∧fV B s u∧u.bk≤b8 d:=by
  intro ZN h
  split at h
  ·rename_i s' h3
   cases h
   obtain⟨c1,us,c2,c3,c4,c5⟩:=reads (B:=B) 9 t [s] h3 fuel _ d p hf hB
   rw[ZN]at c2
   have hul:us.length=1:=by have:=c2.1;simpa using this
   obtain⟨u,rfl⟩:∃u,us=[u]:=by
    cases us with
    | nil=>simp at hul
    | cons u us'=>cases us' with
     | nil=>exact⟨u,rfl⟩
     | cons _ _=>simp at hul
   exact⟨u,c2.head,c4 0 s u rfl rfl,by simp only[tp]at c5;omega⟩
  ·cases h
 have ag:(∃cs,v=.agg cs)→(match tT P 9 t with|some l=>some (Sh.ag l)|none=>none)=some s→∃u:T,VR (g0 P W) W u v∧fV B s u∧u.bk≤b8 d:=by
  rintro⟨cs,rfl⟩ h
  split at h
  ·rename_i l h3
   cases h
   obtain⟨c1,us,c2,c3,c4,c5⟩:=reads (B:=B) 9 t l h3 fuel _ d p hf hB
   have hc:(Value.agg cs).cells.toList=cs.toList:=rfl
   rw[hc]at c1 c2
   refine⟨.agg us,.agg (by have:=c2.1;simpa using this.symm) c3 (fun i t v a b=>c2.2 i t v a (by simpa using b)),.ag (by rw[c2.1,c1]) c4,by have:=mj d;simp only[T.bk];omega⟩
  ·cases h
 simp only[E4]at h
 split at h
 ·rename_i hu
  exact sc (one (by rintro cs rfl;simp[Value.okWide,hu,Cell.okWide,Cell.ok]at hv)) h
 ·rename_i hu
  exact sc (one (by rintro cs rfl;simp[Value.okWide,hu,Cell.okWide,Cell.ok]at hv)) h
 ·rename_i hu
  exact sc (one (by rintro cs rfl;simp[Value.okWide,hu,Cell.okWide,Cell.ok]at hv)) h
 ·rename_i hu
  exact sc (one (by rintro cs rfl;simp[Value.okWide,hu,Cell.okWide,Cell.ok]at hv)) h
 ·rename_i hu
  exact ag (by cases v<;>first|exact⟨_,rfl⟩|simp[Value.okWide,hu]at hv) h
 ·rename_i hu
  exact ag (by cases v<;>first|exact⟨_,rfl⟩|simp[Value.okWide,hu]at hv) h
 ·cases h
theorem uK {base:Nat}:∀(ts:List TypeId) (D1:List Sh) (args:List Value) (ds:List (DataW H)) (p:List MemPlace),pQ P ts=some D1→(∀(j:Nat) t v,ts[j]?=some t→args[j]?=some v→Value.okWide P W .any base t v) →
  DataW.TrodAll enc P W 0 (fun _=>true) held ts args ds p→bS ds≤B→∃as:List T,bL (g0 P W) W as args∧nU B D1 as∧tp as≤bS ds
 | [],D1,args,ds,p,h,_,hA,_=>by
  cases args<;>cases ds<;>simp[DataW.TrodAll]at hA
  simp only[pQ,Option.some.injEq]at h;subst h
  exact⟨[],bL.nil,.nil,by simp[tp]⟩
 | t :: ts,D1,args,ds,p,h,sb,hA,hB=>by
  cases args with
  | nil=>cases ds<;>simp[DataW.TrodAll]at hA
  | cons v args =>
   cases ds with
   | nil=>simp[DataW.TrodAll]at hA
   | cons d ds =>
    obtain⟨p,q,hf,h2,_⟩:=hA
    simp only[pQ]at h
    split at h
    ·rename_i s l h3 h4
     cases h
     simp only[bS]at hB
     obtain⟨as,b1,b2,b3⟩:=uK ts l args ds q h4 (fun j t v a b=>sb (j+1) t v (by simpa using a) (by simpa using b)) h2 (by omega)
     obtain⟨u,c1,c2,c3⟩:=E5 (B:=B) (base:=base) (d:=d) (p:=p) h3 (sb 0 t v rfl rfl) hf (by omega)
     refine⟨u :: as,bL.cons c1 b1,.cons c2 b2,?_⟩
     show T.bk u+tp as≤b8 d+bS ds
     omega
    ·cases h
end
end Go.Rmp
end

section
namespace Go.Rmp
open Go.ChangeShapes Go.RowKit
section
variable {H:Type} {enc:TypeId×Value→H} {P:Program} {W W':World}
theorem nC {sp:Nat→Bool}{held:Bool}:∀(ts:List TypeId) (vs:List Value) (ds:List (DataW H)) (ps:List MemPlace),DataW.TrodAll enc P W 0 sp held ts vs ds ps→(∀p∈ps,W.sameAt W' p)→DataW.TrodAll enc P W' 0 sp held ts vs ds ps
 | [],[],[],_,h,_=>h
 | t :: ts,v :: vs,d :: ds,ps,⟨p,q,⟨n,hn⟩,h2,e⟩,hs=>⟨p,q,⟨n,DataW.trod_carry n t _ _ hn (fun x hx=>hs x (by rw[e];exact List.mem_append_left _ hx))⟩,nC ts vs ds q h2 (fun x hx=>hs x (by rw[e];exact List.mem_append_right _ hx)),e⟩
 | [],_ :: _,_,_,h,_=>h.elim
 | [],[],_ :: _,_,h,_=>h.elim
 | _ :: _,[],_,_,h,_=>h.elim
 | _ :: _,_ :: _,[],_,h,_=>h.elim
theorem E6 {g:Ctx}{Hh:af}(h:SR W g Hh W'):Grown W W':=by
 refine⟨⟨h.env.1,h.env.2,fun i hi=>?_⟩,fun a=>?_,h.size⟩
 ·rw[h.kC i hi]
  have:=World.keptBut_refl W (fun _=>False)
  exact this.2.2 i hi
 ·by_cases ha:a.block<W.heap.size
  ·unfold World.frozen?;rw[h.kC _ ha]
  ·have h1:=h.qN a.block a.off (by omega)
   have h2:=dI (w:=W) (r:=a.block) (j:=a.off) (by omega)
   exact h1.trans h2.symm
theorem C0 {E:Env}(hE:xX P E){f:FuncId}{as:List T}{args:List Value}(hv:bL (g0 P W) W as args)(hW:Go.Rmp.W E (.call f as) [] (fun o _=>o=.val (.bool true))) :
  Calls P f args.toArray W fun e W'=>e=.returned (.bool true)∧Grown W W'∧∀r,r<W.heap.size→W'.heap[r]?=W.heap[r]?:=by
 obtain⟨_,hc⟩:=Go.Rmp.W.sim hE hW W (g0 P W) W args (ck0 P W) (sr0 P W) hv
 refine(callsIn_wide.1 hc).mono fun e W' ⟨v,t,g',H',he,hq,_,sr,gw,_⟩=>?_
 cases hq
 cases gw
 exact⟨he,E6 sr,sr.kC⟩
theorem tU {E:Env}(hE:xX P E){f:FuncId}{fn:Func}{s:ChangeSpec}{D1:List Sh}{B:Nat}{tb:TypeId}(K:Kids P (·<P.types.size))(hz:∀t e,t<P.types.size→P.underlying t=some (.slice e)→0<P.cellsOf e)
  (E3:pQ P fn.params.toList=some D1) (aq:∀t∈fn.params.toList,t<P.types.size) (Yk:fn.resultTypes=#[tb]) (Yl:P.underlying tb=some .bool) (Bp:s.vars=[])
  (xl:∀ds:List (DataW H),ds.length=fn.params.toList.length→s.fn H ds={ results:=[.lit (.bool true)],args:=ds })
  (O4:∀as:List T,nU B D1 as→tp as≤B→Go.Rmp.W E (.call f as) [] (fun o _=>o=.val (.bool true)))
  (base:Nat) (args:Array Value) (ds gs:List (DataW H)) (before:List MemPlace)
  (sb:∀(j:Nat) t v,fn.params[j]?=some t→args[j]?=some v→Value.okWide P W .any base t v)
  (hW:DataW.Whole enc P fn.params.toList s.vars false W args.toList ds gs before) (hB:bS (ds++gs)≤B) :
  Calls P f args W fun e W'=>∃v,e=.returned v∧s.post enc P fn false true false false W args v W':=by
 have hW':=hW
 obtain⟨p,q,hA,hV,Eu,hfz,fH⟩:=hW
 rw[Bp]at hV
 obtain⟨rfl,rfl⟩:gs=[]∧q=[]:=by
  cases gs with
  | nil=>exact⟨rfl,hV⟩
  | cons _ _=>exact hV.elim
 simp only[List.append_nil]at Eu hB
 subst Eu
 obtain⟨as,jq,hss,SN⟩:=uK fn.params.toList D1 args.toList ds before E3 (fun j t v a b=>sb j t v (by simpa using a) (by simpa using b)) hA hB
 have hc:=C0 hE jq (O4 as hss (Nat.le_trans SN hB))
 rw[Array.toArray_toList]at hc
 refine hc.mono fun e W' ⟨he,hg,hold⟩=>⟨_,he,?_⟩
 have hlen:ds.length=fn.params.toList.length:=(trodAll_length hA).2
 have O5:=xl ds hlen
 refine post_of_same (pa:=before) (pv:=[]) hW' (fun b sp hd=>?_) (fun sp AZ=>?_) (fun sp _=>?_) (by simp) (hg.frame _) hg.2.1 (fun j t r hj hr=>?_)
 ·rw[List.append_nil,O5,Yk]
  simp only[Value.resultList]
  exact trodAll_mk1 (shut_bool Yl _)
 ·rw[List.append_nil,O5]
  refine DataW.TrodAll.respare K hz aq (nC _ _ _ _ hA fun x hx=>?_) AZ
  have hb:=hW'.lt x hx
  cases x with
  | cell b o=>simp only[World.sameAt,World.cell?];rw[hold b hb]
  | map b=>exact hold b hb
 ·rw[List.append_nil,O5,Bp];rfl
 ·rw[Yk]at hj hr
  cases j with
  | zero=>simp[Value.resultList]at hj hr;subst hj;subst hr;exact okWide_bool_mk Yl _
  | succ j=>simp at hj
theorem vO {E:Env}(hE:xX P E){f:FuncId}{fn:Func}{s:ChangeSpec}{D1:List Sh}{B:Nat}{tb:TypeId}(K:Kids P (·<P.types.size))(hz:∀t e,t<P.types.size→P.underlying t=some (.slice e)→0<P.cellsOf e)
  (E3:pQ P fn.params.toList=some D1) (aq:∀t∈fn.params.toList,t<P.types.size) (Yk:fn.resultTypes=#[tb]) (Yl:P.underlying tb=some .bool) (Bp:s.vars=[])
  (xl:∀ds:List (DataW H),ds.length=fn.params.toList.length→s.fn H ds={ results:=[.lit (.bool true)],args:=ds })
  (O4:∀as:List T,nU B D1 as→Go.Rmp.W E (.call f as) [] (fun o _=>o=.val (.bool true)))
  (base:Nat) (args:Array Value) (ds gs:List (DataW H)) (before:List MemPlace)
  (sb:∀(j:Nat) t v,fn.params[j]?=some t→args[j]?=some v→Value.okWide P W .any base t v)
  (hW:DataW.Whole enc P fn.params.toList s.vars false W args.toList ds gs before) (hB:bS (ds++gs)≤B) :
  Calls P f args W fun e W'=>∃v,e=.returned v∧s.post enc P fn false true false false W args v W' :=
 tU hE K hz E3 aq Yk Yl Bp xl (fun as h _=>O4 as h) base args ds gs before sb hW hB
end
end Go.Rmp
end

section
namespace Go.Rmp
def vP (R:ax)(H:af):List Rd→Prop
 | []=>True
 | r :: l=>(bV R r.g=true→au R H r.op=some (R r.d,H))∧vP R H l
theorem nV {R:ax}{H:af}:∀(l:List Rd),vP R H l→kz R H l
 | [],_=>fun r h=>by cases h
 | x :: l,h=>fun r hr=>by
  rcases List.mem_cons.1 hr with rfl|hr
  ·exact h.1
  ·exact nV l h.2 r hr
theorem E7 (R:ax)(d:Nat)(v:T):bR R (some d) v=pj R d v:=rfl
theorem E8 (R:ax)(v:T):bR R none v=R:=rfl
theorem E9 (R:ax)(d:Nat)(v:T)(t:Nat):pj R d v t=if t=d then v else R t:=rfl
theorem Bq (a:T)(l:List T):iq (a :: l) 0=a:=rfl
theorem T5 (R:ax)(t:Nat):X.ev R (.r t)=R t:=rfl
theorem T6 (R:ax)(v:T):X.ev R (.c v)=v:=rfl
def Fa (R:ax)(g:Gd)(s:List Rd):Bo→Prop
 | .nH _ c x y=>g=none∧s=[]∧c=.slice∧x.ev R=.sl .arg []∧y.ev R=.sl .nil []
 | _=>False
structure ZO (E:Env)(R:ax)(H:af)(x:X)(az:List X)(P:af→Bool→Prop)(b n:Nat)(R0:ax)(ps:List Nat)(cj body:C)(M1 M:Out→af→Prop):Prop where
 hf:x.ev R=.od b
 hb:H[b]?=some (.loop .ready none n R0 ps cj body)
 hn:az.length=ps.length
 h1:W E (.code cj (jv R0 ps (az.map (X.ev R)))) H M1
 DK:∀o H',M1 o H'→(∃R1,o=.ex .normal R1)∧H'[b]?=some (.loop .ready none n R0 ps cj body)
 h2:∀R1 H1,M1 (.ex .normal R1) H1→W E (.code body R1) (H1.set b (.loop .busy none n R0 ps cj body)) M
 DL:∀o H',M o H'→H'[b]?=some (.loop .busy none n R0 ps cj body)
 h3:∀R' H',M (.ex .normal R') H'→P (H'.set b (.loop .ready none n R0 ps cj body)) true
 h4:∀e R' H',M (.ex e R') H'→e≠.normal→P (H'.set b (.loop .done (some e) n R0 ps cj body)) false
def iL (E:Env):List O→ax→af→(ax→af→Prop)→Prop
 | [],R,H,K=>K R H
 | ⟨d,.b b,g,s⟩ :: l,R,H,K=>match bV R g with
  | false=>iL E l (bR R d cf) H K
  | true=>match au R H b with
   | some (v,H')=>vP R H' s∧iL E l (bR R d v) H' K
   | none=>(Fa R g s b∧∀t:Bool,iL E l (bR R d (.bool t)) H K) ∨
    ∃x bb bi es ix cur,b=.qM x∧x.ev R=.ptr bi 0∧H[bb]?=some (.da es ix bi cur)∧∀t H',ov H bb bi es ix t H'→vP R H' s∧iL E l (bR R d t) H' K
 | ⟨d,.call f az,g,s⟩ :: l,R,H,K=>match bV R g with
  | false=>iL E l (bR R d cf) H K
  | true=>∃M:Out→af→Prop,W E (.call f (az.map (X.ev R))) H M∧∀v H',M (.val v) H'→vP R H' s∧iL E l (bR R d v) H' K
 | ⟨d,.bJ x az,g,s⟩ :: l,R,H,K=>match bV R g with
  | false=>iL E l (bR R d cf) H K
  | true=>(∃(f:Nat) (cs:List T) (M:Out→af→Prop),x.ev R=.fn f cs∧W E (.call f (az.map (X.ev R)++cs)) H M∧∀v H',M (.val v) H'→vP R H' s∧iL E l (bR R d v) H' K) ∨
   ∃b n R0 ps cj body M1 M,ZO E R H x az (fun H' t=>vP R H' s∧iL E l (bR R d (.bool t)) H' K) b n R0 ps cj body M1 M
theorem iZ {E:Env}{Q:Out→af→Prop}:∀(l:List O) (R:ax) (H:af),iL E l R H (fun R' H'=>Q (.ex .normal R') H')→W E (.ops l R) H Q
 | [],R,H,h=>.nil h
 | ⟨d,.b b,g,s⟩ :: l,R,H,h=>by
  simp only[iL]at h
  split at h
  ·rename_i hw;exact .no hw (iZ l _ _ h)
  ·rename_i hw
   split at h
   ·rename_i v H' he;exact .op hw he (nV _ h.1) (iZ l _ _ h.2)
   ·rcases h with h|⟨x,bb,bi,es,ix,cur,rfl,hx,hb,h⟩
    ·cases b with
     | nH neg c x y =>
      obtain⟨⟨hg,hs,hc,hx,hy⟩,h⟩:=h
      subst hg
      exact .Cq hs (fun t=>iZ l _ _ (h t)) hx hy hc
     | _=>exact h.1.elim
    ·exact .qM hw hx hb (fun t H' hm=>nV _ (h t H' hm).1) fun t H' hm=>iZ l _ _ (h t H' hm).2
 | ⟨d,.call f az,g,s⟩ :: l,R,H,h=>by
  simp only[iL]at h
  split at h
  ·rename_i hw;exact .no hw (iZ l _ _ h)
  ·rename_i hw
   obtain⟨M,h1,h2⟩:=h
   exact .call M hw h1 (fun v H' hm=>nV _ (h2 v H' hm).1) (fun v H' hm=>iZ l _ _ (h2 v H' hm).2)
 | ⟨d,.bJ x az,g,s⟩ :: l,R,H,h=>by
  simp only[iL]at h
  split at h
  ·rename_i hw;exact .no hw (iZ l _ _ h)
  ·rename_i hw
   rcases h with⟨f,cs,M,hf,h1,h2⟩|⟨b,n,R0,ps,cj,body,M1,M,h⟩
   ·exact .bJ M hw hf h1 (fun v H' hm=>nV _ (h2 v H' hm).1) (fun v H' hm=>iZ l _ _ (h2 v H' hm).2)
   ·exact .od M1 M hw h.hf h.hb h.hn h.h1 h.DK h.h2 h.DL (fun R' H' hm=>nV _ (h.h3 R' H' hm).1) (fun R' H' hm=>iZ l _ _ (h.h3 R' H' hm).2) (fun e R' H' hm he=>nV _ (h.h4 e R' H' hm he).1) (fun e R' H' hm he=>iZ l _ _ (h.h4 e R' H' hm he).2)
def oN (K:ax→af→Prop)(Q:Out→af→Prop):Out→af→Prop
 | .ex .normal R,H=>K R H
 | o,H=>Q o H
def mm (id:Nat)(Q:Out→af→Prop):Out→af→Prop
 | .ex (.exit i) R,H=>if i=id then Q (.ex .normal R) H else Q (.ex (.exit i) R) H
 | o,H=>Q o H
def fJ (E:Env):C→ax→af→(Out→af→Prop)→Prop
 | .skip,R,H,Q=>Q (.ex .normal R) H
 | .ops l,R,H,Q=>iL E l R H fun R' H'=>Q (.ex .normal R') H'
 | .seq a b,R,H,Q=>fJ E a R H (oN (fun R' H'=>fJ E b R' H' Q) Q)
 | .cond x a b,R,H,Q=>match x.ev R with
  | .bool true=>fJ E a R H Q
  | .bool false=>fJ E b R H Q
  | _=>False
 | .block id a,R,H,Q=>fJ E a R H (mm id Q)
 | .exit id,R,H,Q=>Q (.ex (.exit id) R) H
 | .ret,R,H,Q=>Q (.ex .ret R) H
 | .loop a,R,H,Q=>W E (.code (.loop a) R) H Q
 | .cZ n x ps a b,R,H,Q=>W E (.code (.cZ n x ps a b) R) H Q
theorem ja {E:Env}:∀(c:C) (R:ax) (H:af) (Q:Out→af→Prop),fJ E c R H Q→W E (.code c R) H Q
 | .skip,R,H,Q,h=>.skip h
 | .ops l,R,H,Q,h=>.Sq (iZ l R H h)
 | .seq a b,R,H,Q,h=>.seq _ (ja a R H _ h) (fun R' H' hm=>ja b R' H' Q hm) (fun o H' hm hn=>by
  cases o with
  | ex e R'=>cases e with
   | normal=>exact absurd rfl (hn R')
   | exit id=>exact hm
   | ret=>exact hm
  | val v=>exact hm)
 | .cond x a b,R,H,Q,h=>by
  simp only[fJ]at h
  split at h
  ·rename_i hx;exact .cond true hx (ja a R H Q h)
  ·rename_i hx;exact .cond false hx (ja b R H Q h)
  ·exact h.elim
 | .block id a,R,H,Q,h=>.block _ (ja a R H _ h) (fun R' H' hm=>by simpa[mm]using hm) (fun o H' hm hn=>by
  cases o with
  | ex e R'=>cases e with
   | normal=>exact hm
   | exit i =>
    simp only[mm]at hm
    split at hm
    ·rename_i e;subst e;exact absurd rfl (hn R')
    ·exact hm
   | ret=>exact hm
  | val v=>exact hm)
 | .exit id,R,H,Q,h=>.exit h
 | .ret,R,H,Q,h=>.ret h
 | .loop a,R,H,Q,h=>h
 | .cZ n x ps a b,R,H,Q,h=>h
section
variable (E:Env) (R:ax) (H:af) (K:ax→af→Prop) (Q:Out→af→Prop) (l:List O) (d:Option Nat) (s:List Rd)
def Ym:T→Bool
 | .bool c=>c
 | _=>false
def Yn:T→Bool
 | .bool c=>!c
 | _=>false
def mo (b:Bo)(g:Gd)(e:Option (T×af)):Prop:=match e with
 | some (v,H')=>vP R H' s∧iL E l (bR R d v) H' K
 | none=>(Fa R g s b∧∀t:Bool,iL E l (bR R d (.bool t)) H K) ∨
  ∃x bb bi es ix cur,b=.qM x∧x.ev R=.ptr bi 0∧H[bb]?=some (.da es ix bi cur)∧∀t H',ov H bb bi es ix t H'→vP R H' s∧iL E l (bR R d t) H' K
def KW (b:Bo)(g:Gd)(w:Bool):Prop:=match w with
 | false=>iL E l (bR R d cf) H K
 | true=>mo E R H K l d s b g (au R H b)
def T7 (v:T)(H':af):Prop:=vP R H' s∧iL E l (bR R d v) H' K
def ye (f:Nat)(az:List T):Prop:=∃M:Out→af→Prop,W E (.call f az) H M∧∀v H',M (.val v) H'→T7 E R K l d s v H'
def KX (f:Nat)(az:List X)(w:Bool):Prop:=match w with
 | false=>iL E l (bR R d cf) H K
 | true=>ye E R H K l d s f (az.map (X.ev R))
def cG (t:T)(az:List X):Prop:=match t with
 | .fn f cs=>ye E R H K l d s f (az.map (X.ev R)++cs)
 | _=>False
def MS (R:ax)(H:af):Prop:=Q (.ex .normal R) H
def MT (b:C)(R:ax)(H:af):Prop:=fJ E b R H Q
def Fb (a b:C)(t:T):Prop:=match t with
 | .bool true=>fJ E a R H Q
 | .bool false=>fJ E b R H Q
 | _=>False
theorem MU:iL E [] R H K=K R H:=rfl
theorem b_b (b:Bo):iL E (⟨d,.b b,none,s⟩ :: l) R H K=mo E R H K l d s b none (au R H b):=rfl
theorem b_g (b:Bo)(g:Nat×Bool):iL E (⟨d,.b b,some g,s⟩ :: l) R H K=KW E R H K l d s b (some g) (bV R (some g)):=by simp only[iL,KW];rfl
theorem b_c (f:Nat)(az:List X):iL E (⟨d,.call f az,none,s⟩ :: l) R H K=ye E R H K l d s f (az.map (X.ev R)):=rfl
theorem T8 (f:Nat)(az:List X)(g:Nat×Bool):iL E (⟨d,.call f az,some g,s⟩ :: l) R H K=KX E R H K l d s f az (bV R (some g)):=by simp only[iL,KX];rfl
theorem Yo {x:X}{az:List X}(h:cG E R H K l d s (x.ev R) az):iL E (⟨d,.bJ x az,none,s⟩ :: l) R H K:=by
 unfold cG at h
 split at h
 ·rename_i f cs hx
  obtain⟨M,h1,h2⟩:=h
  exact .inl ⟨f,cs,M,hx,h1,h2⟩
 ·exact h.elim
theorem mq {g:Gd}{x:X}{az:List X}(hg:bV R g=true)(h:cG E R H K l d s (x.ev R) az):iL E (⟨d,.bJ x az,g,s⟩ :: l) R H K:=by
 simp only[iL,hg]
 unfold cG at h
 split at h
 ·rename_i f cs hx
  obtain⟨M,h1,h2⟩:=h
  exact .inl ⟨f,cs,M,hx,h1,h2⟩
 ·exact h.elim
theorem T9 {g:Nat×Bool}{x:X}{az:List X}(hg:bV R (some g)=false):iL E (⟨d,.bJ x az,some g,s⟩ :: l) R H K=iL E l (bR R d cf) H K:=by
 simp only[iL,hg]
theorem Fc (neg:Bool)(c:JF)(x y:X):mo E R H K l d s (.nH neg c x y) none none=((s=[]∧c=.slice∧x.ev R=.sl .arg []∧y.ev R=.sl .nil [])∧∀t:Bool,iL E l (bR R d (.bool t)) H K):=by simp only[mo,Fa,true_and,reduceCtorEq,false_and,exists_false,or_false]
theorem zZ {x:X}{g:Gd}{bb bi:Nat}{es:List (T×T)}{ix:List Nat}{cur:Option Nat}(hx:x.ev R=.ptr bi 0)(hb:H[bb]?=some (.da es ix bi cur))(h:∀t H',ov H bb bi es ix t H'→vP R H' s∧iL E l (bR R d t) H' K):mo E R H K l d s (.qM x) g none:=.inr ⟨x,bb,bi,es,ix,cur,rfl,hx,hb,h⟩
theorem Fe (b:Bo)(g:Gd)(v:T)(H':af):mo E R H K l d s b g (some (v,H'))=(vP R H' s∧iL E l (bR R d v) H' K):=rfl
theorem MV (b:Bo)(g:Gd):KW E R H K l d s b g true=mo E R H K l d s b g (au R H b):=rfl
theorem MW (b:Bo)(g:Gd):KW E R H K l d s b g false=iL E l (bR R d cf) H K:=rfl
theorem Ff (f:Nat)(az:List X):KX E R H K l d s f az true=ye E R H K l d s f (az.map (X.ev R)):=rfl
theorem Fg (f:Nat)(az:List X):KX E R H K l d s f az false=iL E l (bR R d cf) H K:=rfl
theorem ae {f:Nat}{az:List T}(M:Out→af→Prop)(h1:W E (.call f az) H M)(h2:∀v H',M (.val v) H'→vP R H' s∧iL E l (bR R d v) H' K):ye E R H K l d s f az:=⟨M,h1,h2⟩
theorem Fh:fJ E .skip R H Q=Q (.ex .normal R) H:=rfl
theorem MX:fJ E (.ops l) R H Q=iL E l R H (MS Q):=rfl
theorem Br:MS Q R H=Q (.ex .normal R) H:=rfl
theorem gq (a b:C):fJ E (.seq a b) R H Q=fJ E a R H (oN (MT E Q b) Q):=rfl
theorem Fi (x:X)(a b:C):fJ E (.cond x a b) R H Q=Fb E R H Q a b (x.ev R):=rfl
theorem qU (id:Nat)(a:C):fJ E (.block id a) R H Q=fJ E a R H (mm id Q):=rfl
theorem Fj (id:Nat):fJ E (.exit id) R H Q=Q (.ex (.exit id) R) H:=rfl
theorem MY:fJ E .ret R H Q=Q (.ex .ret R) H:=rfl
theorem Fk (a:C):fJ E (.loop a) R H Q=W E (.code (.loop a) R) H Q:=rfl
theorem Bs (n:Nat)(x:X)(ps:List Nat)(a b:C):fJ E (.cZ n x ps a b) R H Q=W E (.code (.cZ n x ps a b) R) H Q:=rfl
theorem cX (b:C):MT E Q b R H=fJ E b R H Q:=rfl
theorem Fl (a b:C):Fb E R H Q a b (.bool true)=fJ E a R H Q:=rfl
theorem Fm (a b:C):Fb E R H Q a b (.bool false)=fJ E b R H Q:=rfl
theorem ej (R:ax)(H:af):oN K Q (.ex .normal R) H=K R H:=rfl
theorem Fo (R:ax)(H:af):oN K Q (.ex .ret R) H=Q (.ex .ret R) H:=rfl
theorem Fp (id:Nat)(R:ax)(H:af):oN K Q (.ex (.exit id) R) H=Q (.ex (.exit id) R) H:=rfl
theorem MZ (id:Nat)(R:ax)(H:af):mm id Q (.ex .normal R) H=Q (.ex .normal R) H:=rfl
theorem M0 (id:Nat)(R:ax)(H:af):mm id Q (.ex .ret R) H=Q (.ex .ret R) H:=rfl
theorem M3 (id i:Nat)(R:ax)(H:af):mm id Q (.ex (.exit i) R) H=if i=id then Q (.ex .normal R) H else Q (.ex (.exit i) R) H:=rfl
theorem Fq (t:Nat):bV R (some (t,true))=Ym (R t):=by cases h:R t<;>simp[bV,Ym,h]
theorem Fs (t:Nat):bV R (some (t,false))=Yn (R t):=by cases h:R t<;>simp[bV,Yn,h]
theorem M4 (c:Bool):Ym (.bool c)=c:=rfl
theorem M5:Ym cf=false:=rfl
theorem M6:Yn cf=false:=rfl
theorem M7 (c:Bool):Yn (.bool c)=!c:=rfl
end
theorem W.cO {E:Env}{α:Type}{a:C}{R:ax}{H:af}{Q:Out→af→Prop}(I:α→ax→af→Prop)(μ:α→Nat)(x:α)(h0:I x R H)
  (step:∀x R H,I x R H→fJ E a R H (oN (fun R' H'=>∃y,μ y<μ x∧I y R' H') Q)):W E (.code (.loop a) R) H Q:=by
 have key:∀(n:Nat) (x:α) (R:ax) (H:af),μ x=n→I x R H→W E (.code (.loop a) R) H Q:=by
  intro n
  induction n using Nat.strongRecOn with
  | _ n ih =>
   intro x R H hn hI
   refine .loop _ (ja a R H _ (step x R H hI)) (fun R' H' hm=>?_) (fun o H' hm fI=>?_)
   ·obtain⟨y,hy,ZP⟩:=hm
    exact ih (μ y) (hn▸hy) y R' H' rfl ZP
   ·cases o with
    | ex e R'=>cases e with
     | normal=>exact absurd rfl (fI R')
     | exit id=>exact hm
     | ret=>exact hm
    | val v=>exact hm
 exact key _ x R H rfl h0
def z7 (res:List Rs)(Q:Out→af→Prop):Out→af→Prop
 | .ex .normal R,H | .ex .ret R,H=>match qB R H res with
  | some v=>Q (.val v) H
  | none=>False
 | _,_=>False
theorem W.bA {E:Env}{f:Nat}{fn:Fn}{az:List T}{H:af}{Q:Out→af→Prop}(hf:E.fn f=some fn)(hr:fn.body.na=false)(hn:az.length=fn.np)(h:fJ E fn.body (iq az) H (z7 fn.res Q)):W E (.call f az) H Q:=by
 refine .fn _ hf hr hn (ja _ _ _ _ h) fun o H' hm=>?_
 cases o with
 | ex e R =>
  cases e with
  | normal=>simp only[z7]at hm;split at hm;exact⟨R,.inl rfl,_,by assumption,hm⟩;exact hm.elim
  | exit id=>exact hm.elim
  | ret=>simp only[z7]at hm;split at hm;exact⟨R,.inr rfl,_,by assumption,hm⟩;exact hm.elim
 | val v=>exact hm.elim
def Ua (n:Nat)(res:List Rs)(Q:Out→af→Prop):Out→af→Prop
 | .ex .normal R,H | .ex .ret R,H=>∃bs,marks (R n)=some bs∧bs.Nodup∧(∀b∈bs,H[b]?=some .AR)∧match qB R (kill H bs) res with
  | some v=>Q (.val v) (kill H bs)
  | none=>False
 | _,_=>False
theorem W.Ub {E:Env}{f:Nat}{fn:Fn}{az:List T}{H:af}{Q:Out→af→Prop}(hf:E.fn f=some fn)(hn:az.length=fn.np)(h:fJ E fn.body (iq az) H (Ua fn.n fn.res Q)):W E (.call f az) H Q:=by
 refine .Sr _ hf hn (ja _ _ _ _ h) fun o H' hm=>?_
 cases o with
 | ex e R =>
  cases e with
  | normal=>obtain⟨bs,h1,h2,h3,h4⟩:=hm;split at h4;exact⟨R,bs,.inl rfl,h1,h2,h3,_,by assumption,h4⟩;exact h4.elim
  | exit id=>exact hm.elim
  | ret=>obtain⟨bs,h1,h2,h3,h4⟩:=hm;split at h4;exact⟨R,bs,.inr rfl,h1,h2,h3,_,by assumption,h4⟩;exact h4.elim
 | val v=>exact hm.elim
theorem W.Ft {E:Env}{n:Nat}{x:X}{ps:List Nat}{cj body:C}{R:ax}{H:af}{Q:Out→af→Prop}{f:Nat}{cs:List T}(hx:x.ev R=.fn f cs)
  (h:W E (.call f (.od (H.length+1) :: cs)) (H++[.AR,.loop .ready none n R ps cj body]) (fun _ H'=>H'[H.length+1]?=some (.loop .ready none n R ps cj body)∧Q (.ex .normal (pj R n (ou (R n) H.length))) (H'.set (H.length+1) .dead))) :
  W E (.code (.cZ n x ps cj body) R) H Q :=
 .cZ _ hx h fun _ _ hm=>⟨.ready,none,by simp,by simp,hm.1,hm.2⟩
theorem M8 {E:Env}{R:ax}{H:af}{K:ax→af→Prop}{l:List O}{d:Option Nat}{s:List Rd}{x:X}{az:List X}{b n:Nat}{R0:ax}{ps:List Nat}{cj body:C}
  (hf:x.ev R=.od b) (hb:H[b]?=some (.loop .ready none n R0 ps cj body)) (hn:az.length=ps.length)
  (h:fJ E cj (jv R0 ps (az.map (X.ev R))) H (fun o H1=>∃R1,o=.ex .normal R1∧H1[b]?=some (.loop .ready none n R0 ps cj body) ∧
   fJ E body R1 (H1.set b (.loop .busy none n R0 ps cj body)) (fun o H2=>∃R2,o=.ex .normal R2∧H2[b]?=some (.loop .busy none n R0 ps cj body) ∧
    vP R (H2.set b (.loop .ready none n R0 ps cj body)) s∧iL E l (bR R d (.bool true)) (H2.set b (.loop .ready none n R0 ps cj body)) K))) :
  iL E (⟨d,.bJ x az,none,s⟩ :: l) R H K:=by
 refine .inr ⟨b,n,R0,ps,cj,body,_,fun o H2=>∃R2,o=.ex .normal R2∧H2[b]?=some (.loop .busy none n R0 ps cj body)∧vP R (H2.set b (.loop .ready none n R0 ps cj body)) s∧iL E l (bR R d (.bool true)) (H2.set b (.loop .ready none n R0 ps cj body)) K,hf,hb,hn,ja _ _ _ _ h,?_,?_,?_,?_,?_⟩
 ·rintro o H'⟨R1,rfl,h1,_⟩;exact⟨⟨R1,rfl⟩,h1⟩
 ·rintro R1 H1⟨_,h0,h1,h2⟩;cases h0;exact ja _ _ _ _ h2
 ·rintro o H'⟨_,_,h,_⟩;exact h
 ·rintro R' H'⟨_,h0,_,h⟩;exact h
 ·rintro e R' H'⟨_,h0,_⟩ bF;cases h0;exact absurd rfl bF
theorem W.use {E:Env}{j:J}{H:af}{Q Q':Out→af→Prop}(h:W E j H Q)(hq:∀o H',Q o H'→Q' o H'):W E j H Q':=by
 induction h generalizing Q' with
 | skip h=>exact .skip (hq _ _ h)
 | exit h=>exact .exit (hq _ _ h)
 | ret h=>exact .ret (hq _ _ h)
 | Sq _ ih=>exact .Sq (ih hq)
 | seq M h1 h2 h3 _ oj=>exact .seq M h1 (fun R' H' hm=>oj R' H' hm hq) (fun o H' hm hn=>hq _ _ (h3 o H' hm hn))
 | cond t hx _ ih=>exact .cond t hx (ih hq)
 | block M h1 h2 h3 _=>exact .block M h1 (fun R' H' hm=>hq _ _ (h2 R' H' hm)) (fun o H' hm hn=>hq _ _ (h3 o H' hm hn))
 | loop M h1 h2 h3 _ oj=>exact .loop M h1 (fun R' H' hm=>oj R' H' hm hq) (fun o H' hm hn=>hq _ _ (h3 o H' hm hn))
 | nil h=>exact .nil (hq _ _ h)
 | no hg _ ih=>exact .no hg (ih hq)
 | op hg he hs _ ih=>exact .op hg he hs (ih hq)
 | call M hg h1 hs _ _ oj=>exact .call M hg h1 hs (fun v H' hm=>oj v H' hm hq)
 | bJ M hg hf h1 hs _ _ oj=>exact .bJ M hg hf h1 hs (fun v H' hm=>oj v H' hm hq)
 | od M1 M hg hf hb hn h1 DK h2 DL AV _ DM _ _ _ SJ SL=>exact .od M1 M hg hf hb hn h1 DK h2 DL AV (fun R' H' hm=>SJ R' H' hm hq) DM (fun e R' H' hm he=>SL e R' H' hm he hq)
 | Cq hs h hx hy hc ih=>exact .Cq hs (fun b=>ih b hq) hx hy hc
 | cZ M hx h1 h2 _=>exact .cZ M hx h1 (fun v H' hm=>let ⟨st,pe,a,b,c,d⟩:=h2 v H' hm;⟨st,pe,a,b,c,hq _ _ d⟩)
 | Sr M hf hn h1 h2 _=>exact .Sr M hf hn h1 (fun o H' hm=>let ⟨R',bs,a,b,c,d,v,e,f⟩:=h2 o H' hm;⟨R',bs,a,b,c,d,v,e,hq _ _ f⟩)
 | fn M hf hr hn h1 h2 _=>exact .fn M hf hr hn h1 (fun o H' hm=>let ⟨R',a,v,b,c⟩:=h2 o H' hm;⟨R',a,v,b,hq _ _ c⟩)
 | Cr i M hi h1 h2 _=>exact .Cr i M hi h1 (fun v H' hm=>hq _ _ (h2 v H' hm))
 | qN M h1 h2 _=>exact .qN M h1 (fun o H' hm=>let ⟨v,b,cs,a,c,d,e⟩:=h2 o H' hm;⟨v,b,cs,a,c,d,hq _ _ e⟩)
 | qM hg hx hb hs _ ih=>exact .qM hg hx hb hs fun t H' hm=>ih t H' hm hq
 | shr M h1 h2 _=>exact .shr M h1 (fun o H' hm=>let ⟨v,b,cs,k,a,c,d,e⟩:=h2 o H' hm;⟨v,b,cs,k,a,c,d,hq _ _ e⟩)
 | Cs i hi hb _ ih=>exact .Cs i hi hb (ih hq)
 | pr h=>exact .pr (E.mono _ _ _ _ _ h fun t H' hm=>hq _ _ hm)
theorem eV {E:Env}{K K':ax→af→Prop}(hk:∀R H,K R H→K' R H):∀(l:List O) (R:ax) (H:af),iL E l R H K→iL E l R H K'
 | [],R,H,h=>hk _ _ h
 | ⟨d,.b b,g,s⟩ :: l,R,H,h=>by
  simp only[iL]at h ⊢
  split at h
  ·exact eV hk l _ _ h
  ·split at h
   ·exact⟨h.1,eV hk l _ _ h.2⟩
   ·rcases h with h|⟨x,bb,bi,es,ix,cur,e,hx,hb,h⟩
    ·exact .inl ⟨h.1,fun t=>eV hk l _ _ (h.2 t)⟩
    ·exact .inr ⟨x,bb,bi,es,ix,cur,e,hx,hb,fun t H' hm=>⟨(h t H' hm).1,eV hk l _ _ (h t H' hm).2⟩⟩
 | ⟨d,.call f az,g,s⟩ :: l,R,H,h=>by
  simp only[iL]at h ⊢
  split at h
  ·exact eV hk l _ _ h
  ·obtain⟨M,h1,h2⟩:=h
   exact⟨M,h1,fun v H' hm=>⟨(h2 v H' hm).1,eV hk l _ _ (h2 v H' hm).2⟩⟩
 | ⟨d,.bJ x az,g,s⟩ :: l,R,H,h=>by
  simp only[iL]at h ⊢
  split at h
  ·exact eV hk l _ _ h
  ·rcases h with⟨f,cs,M,hf,h1,h2⟩|⟨b,n,R0,ps,cj,body,M1,M,h⟩
   ·exact .inl ⟨f,cs,M,hf,h1,fun v H' hm=>⟨(h2 v H' hm).1,eV hk l _ _ (h2 v H' hm).2⟩⟩
   ·exact .inr ⟨b,n,R0,ps,cj,body,M1,M,⟨h.hf,h.hb,h.hn,h.h1,h.DK,h.h2,h.DL,fun R' H' hm=>⟨(h.h3 R' H' hm).1,eV hk l _ _ (h.h3 R' H' hm).2⟩,fun e R' H' hm he=>⟨(h.h4 e R' H' hm he).1,eV hk l _ _ (h.h4 e R' H' hm he).2⟩⟩⟩
theorem fX {E:Env}:∀(c:C) (R:ax) (H:af) {Q Q':Out→af→Prop},(∀o H,Q o H→Q' o H)→fJ E c R H Q→fJ E c R H Q'
 | .skip,R,H,Q,Q',hq,h=>hq _ _ h
 | .ops l,R,H,Q,Q',hq,h=>eV (fun R H h=>hq _ _ h) l R H h
 | .seq a b,R,H,Q,Q',hq,h=>fX a R H (fun o H' h=>by
  cases o with
  | ex e R'=>cases e with
   | normal=>exact fX b R' H' hq h
   | exit id=>exact hq _ _ h
   | ret=>exact hq _ _ h
  | val v=>exact hq _ _ h) h
 | .cond x a b,R,H,Q,Q',hq,h=>by
  simp only[fJ]at h ⊢
  split at h
  ·exact fX a R H hq h
  ·exact fX b R H hq h
  ·exact h.elim
 | .block id a,R,H,Q,Q',hq,h=>fX a R H (fun o H' h=>by
  cases o with
  | ex e R'=>cases e with
   | normal=>exact hq _ _ h
   | exit i=>simp only[mm]at h ⊢;split at h<;>(rename_i e;simp only[e,if_true,if_false];exact hq _ _ h)
   | ret=>exact hq _ _ h
  | val v=>exact hq _ _ h) h
 | .exit id,R,H,Q,Q',hq,h=>hq _ _ h
 | .ret,R,H,Q,Q',hq,h=>hq _ _ h
 | .loop a,R,H,Q,Q',hq,h=>W.use h hq
 | .cZ n x ps a b,R,H,Q,Q',hq,h=>W.use h hq
def kX (v:T)(H:af):Out→af→Prop:=fun o H'=>o=.val v∧H'=H
theorem Bt (v v':T)(H H':af):kX v H (.val v') H'=(v'=v∧H'=H):=by simp[kX]
theorem Bu (a b:T)(l:List T):iq (a :: b :: l) 1=b:=rfl
theorem Bv (a b c:T)(l:List T):iq (a :: b :: c :: l) 2=c:=rfl
theorem Bw (a b c d:T)(l:List T):iq (a :: b :: c :: d :: l) 3=d:=rfl
theorem Bx (a b c d e:T)(l:List T):iq (a :: b :: c :: d :: e :: l) 4=e:=rfl
def yf (v:T)(H:af):Out→af→Prop:=fun o H'=>o=.val v∧∃l,H'=H++l
theorem yg (v v':T)(H l:af):yf v H (.val v') (H++l)=(v'=v):=by simp[yf]
theorem uL (v v':T)(H:af):yf v H (.val v') H=(v'=v):=by
 simp only[yf,Out.val.injEq,eq_iff_iff]
 exact⟨fun h=>h.1,fun h=>⟨h,[],by simp⟩⟩
theorem aa (k:IntKind)(n:Nat):cB (.int k (n:Int))=some n:=by simp[cB]
theorem wrap64 {n:Int}(h:-9223372036854775808≤n∧n<9223372036854775808):IntKind.i64.wrap n=n:=by
 unfold IntKind.wrap
 simp only[IntKind.signed,IntKind.bits]
 simp
 omega
theorem vQ {n:Int}(h:0≤n∧n<18446744073709551616):IntKind.u64.wrap n=n:=by
 unfold IntKind.wrap
 simp only[IntKind.signed,IntKind.bits]
 simp
 omega
theorem aw {i:Nat}(h:i<9223372036854775807):IntKind.i64.wrap ((i:Int)+1)=((i+1:Nat):Int):=by rw[wrap64 (by omega)];simp
theorem gB {i:Nat}(h:i<9223372036854775807)(h1:1≤i):IntKind.i64.wrap ((i:Int)-1)=((i-1:Nat):Int):=by rw[wrap64 (by omega)];omega
theorem KY (H:af)(v:T):nu H 1 (.b0 [v])=some [v]:=rfl
theorem Uc (v:T):valOf false [v]=some v:=rfl
theorem Ud (cs:List T):valOf true cs=some (.agg cs):=rfl
theorem Yp (a b:Nat):decide ((a:Int)<(b:Int))=decide (a<b):=by simp
theorem Yq (a b:Nat):decide ((a:Int)≤(b:Int))=decide (a≤b):=by simp
theorem Ue (a b:Nat):((a:Int)==(b:Int))=decide (a=b):=by rw[Bool.eq_iff_iff];simp;omega
theorem ZQ (a b:Nat):((a:Int) != (b:Int))=!decide (a=b):=by rw[Bool.eq_iff_iff];simp;omega
theorem Fu:∀(a:List UInt8),Op.bytesLess a a=false
 | []=>rfl
 | x :: a=>by simp[Op.bytesLess,Fu a]
theorem yh:∀(a b c:List UInt8),Op.bytesLess a b=true→Op.bytesLess b c=true→Op.bytesLess a c=true
 | _,[],_,h,_=>by cases ‹List UInt8›<;>simp[Op.bytesLess]at h
 | _,_ :: _,[],_,h=>by simp[Op.bytesLess]at h
 | [],_ :: _,_ :: _,_,_=>rfl
 | x :: a,y :: b,z :: c,h1,h2=>by
  simp only[Op.bytesLess,Bool.or_eq_true,decide_eq_true_eq,Bool.and_eq_true,beq_iff_eq]at h1 h2 ⊢
  rcases h1 with h1|⟨rfl,h1⟩
  ·rcases h2 with h2|⟨rfl,h2⟩
   ·exact .inl (UInt8.lt_trans h1 h2)
   ·exact .inl h1
  ·rcases h2 with h2|⟨rfl,h2⟩
   ·exact .inl h2
   ·exact .inr ⟨rfl,yh a b c h1 h2⟩
theorem Fv:∀(a b:List UInt8),Op.bytesLess a b=false→Op.bytesLess b a=false→a=b
 | [],[],_,_=>rfl
 | [],_ :: _,h,_=>by simp[Op.bytesLess]at h
 | _ :: _,[],_,h=>by simp[Op.bytesLess]at h
 | x :: a,y :: b,h1,h2=>by
  simp only[Op.bytesLess,Bool.or_eq_false_iff,decide_eq_false_iff_not,Bool.and_eq_false_iff,beq_eq_false_iff_ne]at h1 h2
  have e:x=y:=by
   have a1:=h1.1;have a2:=h2.1
   exact UInt8.le_antisymm (UInt8.not_lt.1 a2) (UInt8.not_lt.1 a1)
  subst e
  rw[Fv a b (h1.2.resolve_left (fun h=>h rfl)) (h2.2.resolve_left (fun h=>h rfl))]
theorem toList_inj {a b:ByteArray}(h:a.toList=b.toList):a=b:=by
 have e:∀c:ByteArray,c.toList=c.data.toList:=fun c=>Go.ByteArray.toList_eq c
 rw[e,e]at h
 cases a;cases b
 simp only[ByteArray.mk.injEq]
 exact Array.toList_inj.1 h
theorem fY (a b:ByteArray):jS a b=decide (a=b):=by
 unfold jS
 rw[Bool.eq_iff_iff]
 simp only[beq_iff_eq,decide_eq_true_eq]
 exact⟨toList_inj,fun h=>by rw[h]⟩
theorem fA (a:ByteArray):strLt a a=false:=Fu _
theorem eb {a b c:ByteArray}(h1:strLt a b=true)(h2:strLt b c=true):strLt a c=true:=yh _ _ _ h1 h2
theorem sd {a b:ByteArray}(h1:strLt a b=false)(h2:strLt b a=false):a=b:=toList_inj (Fv _ _ h1 h2)
theorem lt_asymm {a b:ByteArray}(h:strLt a b=true):strLt b a=false:=by
 cases e:strLt b a with
 | false=>rfl
 | true=>have:=eb h e;rw[fA]at this;cases this
theorem not_le (a b:ByteArray):(!(strLt b a||jS b a))=strLt a b:=by
 cases h:strLt a b with
 | true =>
  have h1:=lt_asymm h
  have h2:jS b a=false:=by rw[fY];simp;rintro rfl;rw[fA]at h;cases h
  simp[h1,h2]
 | false =>
  cases h1:strLt b a with
  | true=>simp
  | false=>have:=sd h h1;subst this;simp[fY]
def At (H:af)(P:af→Prop):Prop:=P H
theorem At.i {H:af}{P:af→Prop}(h:P H):At H P:=h
def Ext (H H':af):Prop:=∃m,H'=H++m
theorem Ext.rfl' {H:af}:Ext H H:=⟨[],by simp⟩
theorem Ext.trans {H H' xz:af}(h:Ext H H')(h':Ext H' xz):Ext H xz:=by
 obtain⟨a,rfl⟩:=h;obtain⟨b,rfl⟩:=h';exact⟨a++b,by simp⟩
theorem Ext.app {H H':af}(h:Ext H H')(l:af):Ext H (H'++l):=h.trans ⟨l,rfl⟩
theorem Ext.set {H H':af}(h:Ext H H'){b:Nat}(hb:H.length≤b)(x:B):Ext H (H'.set b x):=by
 obtain⟨m,rfl⟩:=h
 exact⟨m.set (b-H.length) x,by rw[List.set_append_right _ _ hb]⟩
theorem Ext.get {H H':af}(h:Ext H H'){b:Nat}{x:B}(hx:H[b]?=some x):H'[b]?=some x:=by
 obtain⟨m,rfl⟩:=h
 have:=(List.getElem?_eq_some_iff.1 hx).1
 rw[List.getElem?_append_left this];exact hx
theorem Ext.len {H H':af}(h:Ext H H'):H.length≤H'.length:=by obtain⟨m,rfl⟩:=h;simp
theorem aQ {H:af}{b:Nat}{x:B}(hx:H[b]?=some x):b<H.length:=(List.getElem?_eq_some_iff.1 hx).1
theorem sf {v v':T}{H H':af}(h:Ext H H'):yf v H (.val v') H'=(v'=v):=by
 simp only[yf,Out.val.injEq,eq_iff_iff];exact⟨fun x=>x.1,fun x=>⟨x,h⟩⟩
theorem aE {H l:af}{x:B}{b:Nat}(h:b=H.length):(H++x :: l)[b]?=some x:=by subst h;simp
theorem aR {H l:af}{b:Nat}(h:b<H.length):(H++l)[b]?=H[b]?:=by rw[List.getElem?_append_left h]
theorem bQ {H:af}{x:B}{b:Nat}(h:b<H.length):(H.set b x)[b]?=some x:=by simp[h]
theorem bm {H:af}{x:B}{b c:Nat}(h:b≠c):(H.set b x)[c]?=H[c]?:=by simp[h]
theorem vR {H l:af}{x y:B}{b:Nat}(h:b=H.length):(H++x :: l).set b y=H++y :: l:=by subst h;simp
theorem M9 {H l:af}{x:B}{b:Nat}(h:b<H.length):(H++l).set b x=H.set b x++l:=by rw[List.set_append_left _ _ h]
theorem Na {H l:af}{b:Nat}(h:b<H.length):(b<(H++l).length)=True:=by simp;omega
theorem Nb {H:af}{x:B}{b c:Nat}:(b<(H.set c x).length)=(b<H.length):=by simp
theorem Nc {H:af}{x:B}{b c:Nat}:(b=(H.set c x).length)=(b=H.length):=by simp
def mr (n off:Nat):Option B→Option (List T)
 | some (.cells cs)=>if off+n≤cs.length then some ((cs.drop off).take n)else none
 | _=>none
theorem Bz (H:af)(n b off:Nat):nu H n (.ptr b off)=mr n off H[b]?:=by
 simp only[nu,mr];rfl
theorem bZ (H:af)(n:Nat)(cs:List T):nu H n (.b0 cs)=if n≤cs.length then some (cs.take n)else none:=rfl
theorem nW (n off:Nat)(cs:List T):mr n off (some (.cells cs))=if off+n≤cs.length then some ((cs.drop off).take n)else none:=rfl
def qD (H:af)(b:Nat)(vs:List T)(off:Nat):Option B→Option af
 | some (.cells cs)=>if off+vs.length≤cs.length then some (H.set b (.cells (cs.take off++vs++cs.drop (off+vs.length))))else none
 | _=>none
theorem BA (H:af)(vs:List T)(b off:Nat):Tj H vs (.ptr b off)=qD H b vs off H[b]?:=by
 simp only[Tj,qD];rfl
theorem jb (H:af)(b:Nat)(vs:List T)(off:Nat)(cs:List T):qD H b vs off (some (.cells cs))=if off+vs.length≤cs.length then some (H.set b (.cells (cs.take off++vs++cs.drop (off+vs.length))))else none:=rfl
theorem pS (H l:af)(x y:B):(H++x :: l).set H.length y=H++y :: l:=vR rfl
theorem BB (off b o:Nat):oq off (.ptr b o)=some (.ptr b (o+off)):=rfl
def cC (id:Nat)(P:ax→af→Prop)(Q:Out→af→Prop):Out→af→Prop
 | .ex (.exit i) R,H=>if i=id then P R H else Q (.ex (.exit i) R) H
 | o,H=>Q o H
theorem Uf (id:Nat)(P:ax→af→Prop)(Q:Out→af→Prop)(R:ax)(H:af):cC id P Q (.ex .normal R) H=Q (.ex .normal R) H:=rfl
theorem Ug (id:Nat)(P:ax→af→Prop)(Q:Out→af→Prop)(R:ax)(H:af):cC id P Q (.ex .ret R) H=Q (.ex .ret R) H:=rfl
theorem Uh (id i:Nat)(P:ax→af→Prop)(Q:Out→af→Prop)(R:ax)(H:af):cC id P Q (.ex (.exit i) R) H=if i=id then P R H else Q (.ex (.exit i) R) H:=rfl
theorem W.cV {E:Env}{α:Type}{a:C}{R:ax}{H:af}{Q:Out→af→Prop}(id:Nat)(I:α→ax→af→Prop)(μ:α→Nat)(x:α)(P:ax→af→Prop)(h0:I x R H)
  (step:∀x R H,I x R H→fJ E a R H (oN (fun R' H'=>∃y,μ y<μ x∧I y R' H') (cC id P Q))) (rest:∀R H,P R H→Q (.ex (.exit id) R) H):W E (.code (.loop a) R) H Q :=
 W.use (W.cO I μ x h0 step) fun o H' h=>by
  cases o with
  | ex e R'=>cases e with
   | exit i=>simp only[cC]at h;split at h;rename_i e;subst e;exact rest _ _ h;exact h
   | normal=>exact h
   | ret=>exact h
  | val v=>exact h
def aj {α β:Type}[DecidableEq α](es:List (α×β))(k:α):Option β:=(es.find? fun e=>decide (k=e.1)).map (·.2)
def cD {α β:Type}[DecidableEq α](es:List (α×β))(k:α)(v:β):List (α×β) :=
 match es.findIdx? fun e=>decide (k=e.1)with
 | some i=>es.set i (k,v)
 | none=>es++[(k,v)]
def ng {α β:Type}[DecidableEq α](es:List (α×β))(k:α):List (α×β) :=
 match es.findIdx? fun e=>decide (k=e.1)with
 | some i=>es.eraseIdx i
 | none=>es
section
variable {α β:Type} [DecidableEq α]
theorem eg (k:α):aj ([]:List (α×β)) k=none:=rfl
theorem bK (e:α×β)(es:List (α×β))(k:α):aj (e :: es) k=if k=e.1 then some e.2 else aj es k:=by
 unfold aj;rw[List.find?_cons];by_cases h:k=e.1<;>simp[h]
theorem Fx (k:α)(v:β):cD [] k v=[(k,v)]:=rfl
theorem pU (e:α×β)(es:List (α×β))(k:α)(v:β):cD (e :: es) k v=if k=e.1 then(k,v) :: es else e :: cD es k v:=by
 unfold cD;rw[List.findIdx?_cons]
 by_cases h:k=e.1
 ·simp[h]
 ·simp only[h,decide_false,if_false,Bool.false_eq_true]
  cases List.findIdx? (fun e=>decide (k=e.1)) es<;>simp
theorem bq (es:List (α×β))(k k':α)(v:β):aj (cD es k v) k'=if k'=k then some v else aj es k':=by
 induction es with
 | nil=>rw[Fx,bK]
 | cons e es ih =>
  rw[pU]
  by_cases h:k=e.1
  ·simp only[h,if_true,bK];by_cases h':k'=e.1<;>simp[h']
  ·simp only[h,if_false,bK,ih]
   by_cases h':k'=e.1
   ·subst h';simp[Ne.symm h]
   ·simp[h']
theorem uM (es:List (α×β))(k:α):aj es k=match es.findIdx? fun e=>decide (k=e.1)with
  | some i=>(es[i]?).map (·.2)
  | none=>none:=by
 induction es with
 | nil=>rfl
 | cons e es ih =>
  rw[bK,List.findIdx?_cons]
  by_cases h:k=e.1
  ·simp[h]
  ·simp only[h,if_false,decide_false,Bool.false_eq_true,ih]
   cases List.findIdx? (fun e=>decide (k=e.1)) es<;>simp
theorem Fy {es:List (α×β)}{k:α}{i:Nat}(h:(es.findIdx? fun e=>decide (k=e.1))=some i):∃v,es[i]?=some (k,v):=by
 rw[List.findIdx?_eq_some_iff_getElem]at h
 obtain⟨hi,h,-⟩:=h
 refine⟨es[i].2,?_⟩
 rw[List.getElem?_eq_getElem hi]
 simp only[decide_eq_true_eq]at h
 rw[h]
end
def bl {α:Type}(ek:α→T)(es:List (α×T)):List (T×T):=es.map fun e=>(ek e.1,e.2)
structure sg {α:Type}[DecidableEq α](kt:KT)(ek:α→T):Prop where
 has:∀a,(ek a).jF kt=true
 eq:∀a b,iP (ek a) (ek b)=some (decide (a=b))
section
variable {α:Type} [DecidableEq α] {kt:KT} {ek:α→T}
theorem vS (ho:sg kt ek)(k:α):∀es:List (α×T),dz (ek k) (bl ek es)=some (es.findIdx? fun e=>decide (k=e.1))
 | []=>rfl
 | e :: es=>by
  have ih:=vS ho k es
  simp only[bl]at ih ⊢
  simp only[List.map_cons,dz,ho.eq,List.findIdx?_cons]
  cases h:decide (k=e.1)
  ·simp[ih]
  ·simp
def jK (o:Option T)(z:T)(ok:Bool):T:=match o with
 | some v=>if ok then .bC [v,.bool true]else v
 | none=>if ok then .bC [z,.bool false]else z
def z8 (kt:KT)(z:T)(ok:Bool)(H:af)(mb:Option B)(k:T):Option (T×af):=match mb with
 | some (.map es)=>if k.jF kt then match dz k es with
  | some (some i)=>match es[i]? with
   | some e=>some (if ok then .bC [e.2,.bool true]else e.2,H)
   | none=>none
  | some none=>some (if ok then .bC [z,.bool false]else z,H)
  | none=>none else none
 | some (.da es _ _ _)=>if k.jF kt then match dz k es with
  | some (some i)=>match es[i]? with
   | some e=>some (if ok then .bC [e.2,.bool true]else e.2,H)
   | none=>none
  | some none=>some (if ok then .bC [z,.bool false]else z,H)
  | none=>none else none
 | _=>none
def O6 (kt:KT)(z:T)(ok:Bool)(H:af)(m k:T):Option (T×af):=match m with
 | .map b=>z8 kt z ok H H[b]? k
 | .hY=>if k.jF kt then some (if ok then .bC [z,.bool false]else z,H)else none
 | _=>none
theorem Fz (R:ax)(H:af)(kt:KT)(z:T)(ok:Bool)(m k:X):au R H (.om kt z ok m k)=O6 kt z ok H (m.ev R) (k.ev R):=by
 unfold O6 z8
 simp only[au]
 cases h1:(k.ev R).jF kt
 ·simp only[Bool.false_eq_true,if_false]
  cases m.ev R with
  | map b=>simp only;split<;>rfl
  | _=>rfl
 ·simp only[if_true]
  cases m.ev R with
  | map b =>
   simp only[ik]
   cases H[b]? with
   | none=>rfl
   | some x=>cases x<;>rfl
  | hY=>simp only[ik,dz]
  | _=>rfl
theorem yj (kt:KT)(z:T)(ok:Bool)(H:af)(b:Nat)(k:T):O6 kt z ok H (.map b) k=z8 kt z ok H H[b]? k:=rfl
theorem mw (ho:sg kt ek)(z:T)(ok:Bool)(H:af)(es:List (α×T))(s:α):z8 kt z ok H (some (.map (bl ek es))) (ek s)=some (jK (aj es s) z ok,H):=by
 simp only[z8,ho.has,vS ho,if_true,uM]
 cases h:List.findIdx? (fun e=>decide (s=e.1)) es with
 | none=>cases ok<;>rfl
 | some i =>
  obtain⟨v,hv⟩:=Fy h
  have:(bl ek es)[i]?=some (ek s,v):=by simp[bl,hv]
  simp only[this,hv,jK,Option.map_some]
def yk (kt:KT)(H:af)(b:Nat)(mb:Option B)(k v:T):Option (T×af):=match mb with
 | some (.map es)=>if k.jF kt then match dz k es with
  | some (some i)=>some (cf,H.set b (.map (es.set i (k,v))))
  | some none=>some (cf,H.set b (.map (es++[(k,v)])))
  | none=>none else none
 | _=>none
def O7 (kt:KT)(H:af)(m k v:T):Option (T×af):=match m with
 | .map b=>yk kt H b H[b]? k v
 | _=>none
theorem FA (R:ax)(H:af)(kt:KT)(m k v:X):au R H (.AQ kt m k v)=O7 kt H (m.ev R) (k.ev R) (v.ev R):=by
 unfold O7 yk
 simp only[au]
 cases m.ev R with
 | map b =>
  simp only
  cases h1:(k.ev R).jF kt
  ·simp only[Bool.false_eq_true,if_false];split<;>rfl
  ·simp only[if_true]
   cases H[b]? with
   | none=>rfl
   | some x=>cases x<;>rfl
 | _=>rfl
theorem yl {β γ:Type}(f:β→γ):∀(l:List β) (j:Nat),(l.map f).eraseIdx j=(l.eraseIdx j).map f
 | [],_=>by simp
 | _ :: _,0=>by simp
 | _ :: l,j+1=>by simp[yl f l j]
def FB (kt:KT)(H:af)(b:Nat)(mb:Option B)(k:T):Option (T×af):=match mb with
 | some (.map es)=>if k.jF kt then match dz k es with
  | some (some i)=>some (.bC [],H.set b (.map (es.eraseIdx i)))
  | some none=>some (.bC [],H)
  | none=>none else none
 | _=>none
def O8 (kt:KT)(H:af)(m k:T):Option (T×af):=match m with
 | .map b=>FB kt H b H[b]? k
 | _=>none
theorem FC (R:ax)(H:af)(kt:KT)(m k:X):au R H (.del kt m k)=O8 kt H (m.ev R) (k.ev R):=by
 unfold O8 FB
 simp only[au]
 cases m.ev R with
 | map b =>
  simp only
  cases h1:(k.ev R).jF kt
  ·simp only[Bool.false_eq_true,if_false];split<;>rfl
  ·simp only[if_true]
   cases H[b]? with
   | none=>rfl
   | some x=>cases x<;>rfl
 | _=>rfl
theorem ym (kt:KT)(H:af)(b:Nat)(k:T):O8 kt H (.map b) k=FB kt H b H[b]? k:=rfl
def qE (es:List (α×T))(s:α):List (α×T):=match es.findIdx? (fun e=>decide (s=e.1))with
 | some i=>es.eraseIdx i
 | none=>es
theorem FD (ho:sg kt ek)(H:af)(b:Nat)(es:List (α×T))(s:α){v:T}(hv:aj es s=some v):FB kt H b (some (.map (bl ek es))) (ek s)=some (.bC [],H.set b (.map (bl ek (qE es s)))):=by
 rw[uM]at hv
 simp only[FB,ho.has,vS ho,if_true,qE]
 cases h:List.findIdx? (fun e=>decide (s=e.1)) es with
 | none=>rw[h]at hv;simp at hv
 | some i=>simp only[bl,Option.some.injEq,Prod.mk.injEq,true_and];congr 2;rw[yl]
def O9 (H:af)(b:Nat):Option B→Option (T×af)
 | some (.map es)=>some (.ptr H.length 0,H.set b (.da es (List.range es.length) H.length none)++[.vw b])
 | some (.da es _ _ _)=>some (.ptr H.length 0,H.set b (.da es (List.range es.length) H.length none)++[.vw b])
 | _=>none
def Pa (H:af):T→Option (T×af)
 | .map b=>O9 H b H[b]?
 | _=>none
theorem FE (R:ax)(H:af)(x:X):au R H (.N8 x)=Pa H (x.ev R):=by
 simp only[au]
 cases x.ev R with
 | map b =>
  simp only[ik,Pa]
  cases H[b]? with
  | none=>rfl
  | some y=>cases y<;>rfl
 | _=>rfl
theorem yn (H:af)(b:Nat):Pa H (.map b)=O9 H b H[b]?:=rfl
theorem FF (H:af)(b:Nat)(es:List (T×T)):O9 H b (some (.map es))=some (.ptr H.length 0,H.set b (.da es (List.range es.length) H.length none)++[.vw b]):=rfl
theorem FG (R:ax)(H:af)(x:X):au R H (.qM x)=none:=rfl
def KZ (H:af)(bi:Nat):Option B→Option (T×af)
 | some (.da es _ Tk (some c))=>if Tk=bi then(es[c]?).map fun e=>(.bC [e.1,e.2],H)else none
 | _=>none
def K0 (H:af)(bi:Nat):Option B→Option (T×af)
 | some (.vw b)=>KZ H bi H[b]?
 | _=>none
def Pb (H:af):T→Option (T×af)
 | .ptr bi 0=>K0 H bi H[bi]?
 | _=>none
theorem FH (R:ax)(H:af)(x:X):au R H (.N9 x)=Pb H (x.ev R):=by
 simp only[au]
 cases x.ev R with
 | ptr bi o =>
  cases o with
  | zero =>
   simp only[Pb]
   cases H[bi]? with
   | none=>rfl
   | some y=>cases y with
    | vw b =>
     simp only[K0]
     cases H[b]? with
     | none=>rfl
     | some z=>cases z with
      | da es ix Tk cur=>cases cur<;>rfl
      | _=>rfl
    | _=>rfl
  | succ _=>rfl
 | _=>rfl
theorem yo (H:af)(bi:Nat):Pb H (.ptr bi 0)=K0 H bi H[bi]?:=rfl
theorem FI (H:af)(bi b:Nat):K0 H bi (some (.vw b))=KZ H bi H[b]?:=rfl
theorem FJ (H:af)(bi:Nat)(es:List (T×T))(ix:List Nat)(c:Nat):KZ H bi (some (.da es ix bi (some c)))=(es[c]?).map fun e=>(.bC [e.1,e.2],H):=by simp only[KZ,if_true]
def K1 (H:af)(b off len n n':Nat)(z:List T):Option B→Option (T×af)
 | some (.cells cs)=>if n'=n∧z.length=n∧off+len*n≤cs.length then some (cf,H.set b (.cells (cs.take off++(List.replicate len z).flatten++cs.drop (off+len*n))))else none
 | _=>none
def Pc (H:af)(n:Nat)(z:List T):T→Option (T×af)
 | .aC b off len n'=>K1 H b off len n n' z H[b]?
 | _=>none
theorem FK (R:ax)(H:af)(n:Nat)(z:List T)(x:X):au R H (.So n z x)=Pc H n z (x.ev R):=by
 simp only[au]
 cases x.ev R with
 | aC b off len n' =>
  simp only[Pc]
  cases H[b]? with
  | none=>rfl
  | some y=>cases y<;>rfl
 | _=>rfl
theorem oO (H:af)(n:Nat)(z:List T)(b off len n':Nat):Pc H n z (.aC b off len n')=K1 H b off len n n' z H[b]?:=rfl
theorem yp (kt:KT)(H:af)(b:Nat)(k v:T):O7 kt H (.map b) k v=yk kt H b H[b]? k v:=rfl
theorem vT (ho:sg kt ek)(H:af)(b:Nat)(es:List (α×T))(s:α)(v:T):yk kt H b (some (.map (bl ek es))) (ek s) v=some (cf,H.set b (.map (bl ek (cD es s v)))):=by
 simp only[yk,ho.has,vS ho,if_true,cD]
 cases h:List.findIdx? (fun e=>decide (s=e.1)) es with
 | none=>simp[bl]
 | some i=>simp[bl]
end
theorem Ui:sg (.sc .str) T.str:=⟨fun _=>rfl,fun a b=>by simp only[iP,jo,fY]⟩
def kU (n:Nat):T:=.int .u64 n
theorem Pd:sg (.sc .int) kU:=⟨fun _=>rfl,fun a b=>by simp only[kU,iP,jo,if_true,Ue]⟩
theorem fZ (z:T)(ok:Bool)(H:af)(es:List (ByteArray×T))(s:ByteArray):z8 (.sc .str) z ok H (some (.map (bl T.str es))) (.str s)=some (jK (aj es s) z ok,H):=mw Ui z ok H es s
theorem my (z:T)(ok:Bool)(H:af)(es:List (Nat×T))(s:Nat):z8 (.sc .int) z ok H (some (.map (bl kU es))) (.int .u64 s)=some (jK (aj es s) z ok,H):=mw Pd z ok H es s
theorem nX (H:af)(b:Nat)(es:List (ByteArray×T))(s:ByteArray)(v:T):yk (.sc .str) H b (some (.map (bl T.str es))) (.str s) v=some (cf,H.set b (.map (bl T.str (cD es s v)))):=vT Ui H b es s v
theorem sk (H:af)(b:Nat)(es:List (Nat×T))(s:Nat)(v:T):yk (.sc .int) H b (some (.map (bl kU es))) (.int .u64 s) v=some (cf,H.set b (.map (bl kU (cD es s v)))):=vT Pd H b es s v
theorem yq (v z:T):jK (some v) z false=v:=rfl
theorem yr (z:T):jK none z false=z:=rfl
theorem uN (v z:T):jK (some v) z true=.bC [v,.bool true]:=rfl
theorem uO (z:T):jK none z true=.bC [z,.bool false]:=rfl
theorem uP (l:List T):(T.agg l).cells?=some l:=rfl
theorem uQ (k:IntKind)(n:Int):(T.int k n).cells?=some [.int k n]:=rfl
theorem uR (s:ByteArray):(T.str s).cells?=some [.str s]:=rfl
theorem sm (s:Bool):(T.bool s).cells?=some [.bool s]:=rfl
theorem yu (k:SK)(l:List (List T)):(T.sl k l).cells?=some [.sl k l]:=rfl
theorem uS (a b c d:Nat):(T.aC a b c d).cells?=some [.aC a b c d]:=rfl
theorem uT (b:Nat):(T.map b).cells?=some [.map b]:=rfl
theorem uU (a b:Nat):(T.ptr a b).cells?=some [.ptr a b]:=rfl
theorem sn:(T.hY).cells?=some [.hY]:=rfl
theorem su:(T.br).cells?=some [.br]:=rfl
theorem Uj (v:T):Cp [v]=v:=rfl
theorem Uk (v w:T):Cp [v,w]=.bC [v,w]:=rfl
theorem Ul (v w x:T):Cp [v,w,x]=.bC [v,w,x]:=rfl
theorem FL (k:IntKind)(n:Int):(T.int k n).erase=.int k n:=rfl
theorem FM (s:ByteArray):(T.str s).erase=.str s:=rfl
theorem BC (s:Bool):(T.bool s).erase=.bool s:=rfl
theorem Nd (k:SK)(l:List (List T)):(T.sl k l).erase=.sl .arg l:=rfl
theorem FN (a b:Nat):(T.ptr a b).erase=.ptr a b:=rfl
theorem vU (b:Nat):(T.map b).erase=.map b:=rfl
theorem BD:(T.hY).erase=.hY:=rfl
theorem BE:(T.br).erase=.br:=rfl
theorem yv (H:af)(n:Nat)(k:SK)(es:List (List T)):bG H n (.sl k es)=if es.all (·.length==n)then some es else none:=rfl
theorem FO (R:ax):bV R Option.none=true:=rfl
theorem FP (p:Prop):(True→p)=p:=by simp
theorem Nf (p:Prop):(p→True)=True:=by simp
theorem Ng (p:Prop):(true=true→p)=p:=by simp
theorem Nh (p:Prop):(false=true→p)=True:=by simp
theorem FQ (b:Bool):D6 .not (.bool b)=some (.bool !b):=rfl
theorem FR (k:IntKind)(a b:Int):cQ .add (.int k a) (.int k b)=some (.int k (k.wrap (a+b))):=by simp[cQ]
theorem FT (k:IntKind)(a b:Int):cQ .sub (.int k a) (.int k b)=some (.int k (k.wrap (a-b))):=by simp[cQ]
theorem FU (k:IntKind)(a b:Int):cQ .mul (.int k a) (.int k b)=some (.int k (k.wrap (a*b))):=by simp[cQ]
theorem FV (k:IntKind)(a b:Int):cQ .quo (.int k a) (.int k b)=if b=0 then none else some (.int k (k.wrap (a.tdiv b))):=by simp[cQ]
theorem FW (k:IntKind)(a b:Int):cQ .rem (.int k a) (.int k b)=if b=0 then none else some (.int k (a.tmod b)):=by simp[cQ]
theorem FX (k k':IntKind)(a b:Int):cQ .shl (.int k a) (.int k' b)=if b<0 then none else some (.int k (k.wrap (a*2^(min b.toNat k.bits)))):=by simp[cQ]
theorem FY (k k':IntKind)(a b:Int):cQ .shr (.int k a) (.int k' b)=if b<0 then none else some (.int k (a.fdiv (2^(min b.toNat k.bits)))):=by simp[cQ]
theorem FZ (k:IntKind)(a b:Int):cQ .and (.int k a) (.int k b)=some (.int k (k.wrap (BitVec.ofInt k.bits a &&& BitVec.ofInt k.bits b).toNat)):=by simp[cQ]
theorem Ni (k:IntKind)(a b:Int):cQ .or (.int k a) (.int k b)=some (.int k (k.wrap (BitVec.ofInt k.bits a ||| BitVec.ofInt k.bits b).toNat)):=by simp[cQ]
theorem F4 (k:IntKind)(a b:Int):cQ .xor (.int k a) (.int k b)=some (.int k (k.wrap (BitVec.ofInt k.bits a ^^^ BitVec.ofInt k.bits b).toNat)):=by simp[cQ]
theorem F5 (k:IntKind)(a b:Int):cQ .eql (.int k a) (.int k b)=some (.bool (a==b)):=by simp[cQ]
theorem F6 (k:IntKind)(a b:Int):cQ .neq (.int k a) (.int k b)=some (.bool (a != b)):=by simp[cQ]
theorem F7 (k:IntKind)(a b:Int):cQ .lss (.int k a) (.int k b)=some (.bool (a<b)):=by simp[cQ]
theorem F9 (k:IntKind)(a b:Int):cQ .leq (.int k a) (.int k b)=some (.bool (a≤b)):=by simp[cQ]
theorem Ga (k:IntKind)(a b:Int):cQ .gtr (.int k a) (.int k b)=some (.bool (b<a)):=by simp[cQ]
theorem Gb (k:IntKind)(a b:Int):cQ .geq (.int k a) (.int k b)=some (.bool (b≤a)):=by simp[cQ]
theorem Gc (a b:ByteArray):cQ .eql (.str a) (.str b)=some (.bool (decide (a=b))):=by simp[cQ,fY]
theorem Ge (a b:ByteArray):cQ .neq (.str a) (.str b)=some (.bool (!decide (a=b))):=by simp[cQ,fY]
theorem Gf (a b:ByteArray):cQ .lss (.str a) (.str b)=some (.bool (strLt a b)):=by rfl
theorem Gg (a b:ByteArray):cQ .leq (.str a) (.str b)=some (.bool (!strLt b a)):=by have:=not_le b a;simp only[cQ,Option.some.injEq,T.bool.injEq];rw[←this];simp
theorem Gh (a b:ByteArray):cQ .gtr (.str a) (.str b)=some (.bool (strLt b a)):=by have:=not_le b a;simp only[cQ,Option.some.injEq,T.bool.injEq];exact this
theorem Gi (a b:ByteArray):cQ .geq (.str a) (.str b)=some (.bool (!strLt a b)):=by rfl
theorem Gj (a b:ByteArray):cQ .add (.str a) (.str b)=if a.size+b.size≤9223372036854775807 then some (.str (a++b))else none:=rfl
theorem Gk (a b:Nat):decide ((a:Int)<(no_index (OfNat.ofNat b)))=decide (a<OfNat.ofNat b):=Yp a b
theorem Gl (a b:Nat):decide ((no_index (OfNat.ofNat b):Int)<(a:Int))=decide (OfNat.ofNat b<a):=Yp b a
theorem Gm (a b:Nat):decide ((a:Int)≤(no_index (OfNat.ofNat b)))=decide (a≤OfNat.ofNat b):=Yq a b
theorem Gn (a b:Nat):decide ((no_index (OfNat.ofNat b):Int)≤(a:Int))=decide (OfNat.ofNat b≤a):=Yq b a
theorem Gp (a b:Nat):((a:Int)==(no_index (OfNat.ofNat b)))=decide (a=OfNat.ofNat b):=Ue a b
theorem Gq (a b:Nat):((a:Int) != (no_index (OfNat.ofNat b)))=!decide (a=OfNat.ofNat b):=ZQ a b
set_option linter.defProp false in
theorem S1:type_of% (And.intro (@T9)<|And.intro (@au.eq_37)<|And.intro (@au.eq_38)<|And.intro (@au.eq_43)<|And.intro (@au.eq_44)<|And.intro (@au.eq_45)<|And.intro (@Uf)<|And.intro (@Ug)<|And.intro (@Uh)<|And.intro (@hJ.eq_1)<|And.intro (@hJ.eq_2)<|And.intro (@FO)<|And.intro (@FP)<|And.intro (@Nf)<|And.intro (@Ng)<|And.intro (@Nh)<|And.intro (@Fc)<|And.intro (@List.nil_append.{0})<|And.intro (@List.append_nil.{0})<|And.intro (@List.cons_append.{0})<|And.intro (@FL)<|And.intro (@FM)<|And.intro (@BC)<|And.intro (@Nd)<|And.intro (@FN)<|And.intro (@vU)<|And.intro (@BD)<|And.intro (@BE)<|And.intro (@yv)<|And.intro (@fO.eq_1)<|And.intro (@fO.eq_2)<|And.intro (@nr.eq_1)<|And.intro (@nr.eq_2)<|And.intro (@jT.eq_1)<|And.intro (@jT.eq_2)<|And.intro (@jU.eq_1)<|And.intro (@jU.eq_2)<|And.intro (@List.replicate_zero.{0})<|And.intro (@List.replicate_succ.{0})<|And.intro (@List.set_cons_zero.{0})<|And.intro (@List.set_cons_succ.{0})<|And.intro (@List.all_cons.{0})<|And.intro (@List.all_nil.{0})<|And.intro (@Bool.and_true)<|And.intro (@Bool.true_and)<|And.intro (@bZ)<|And.intro (@Bz)<|And.intro (@nW)<|And.intro (@BA)<|And.intro (@jb)<|And.intro (@BB)<|And.intro (@Gk)<|And.intro (@Gl)<|And.intro (@Gm)<|And.intro (@Gn)<|And.intro (@Gp)<|And.intro (@Gq)<|And.intro (@MU)<|And.intro (@b_b)<|And.intro (@b_g)<|And.intro (@b_c)<|And.intro (@T8)<|And.intro (@Fe)<|And.intro (@MV)<|And.intro (@MW)<|And.intro (@Ff)<|And.intro (@Fg)<|And.intro (@Fh)<|And.intro (@MX)<|And.intro (@Br)<|And.intro (@gq)<|And.intro (@Fi)<|And.intro (@qU)<|And.intro (@Fj)<|And.intro (@MY)<|And.intro (@Fk)<|And.intro (@Bs)<|And.intro (@cX)<|And.intro (@Fl)<|And.intro (@Fm)<|And.intro (@ej)<|And.intro (@Fo)<|And.intro (@Fp)<|And.intro (@MZ)<|And.intro (@M0)<|And.intro (@M3)<|And.intro (@Bool.false_eq_true)<|And.intro (@Fq)<|And.intro (@Fs)<|And.intro (@M4)<|And.intro (@M7)<|And.intro (@M5)<|And.intro (@M6)<|And.intro (@yg)<|And.intro (@uL)<|And.intro (@List.length_cons.{0})<|And.intro (@List.length_nil.{0})<|And.intro (@List.drop_succ_cons.{0})<|And.intro (@List.drop_zero.{0})<|And.intro (@List.take_succ_cons.{0})<|And.intro (@List.take_zero.{0})<|And.intro (@uP)<|And.intro (@uQ)<|And.intro (@uR)<|And.intro (@sm)<|And.intro (@yu)<|And.intro (@uS)<|And.intro (@uT)<|And.intro (@uU)<|And.intro (@sn)<|And.intro (@su)<|And.intro (@oq.eq_1)<|And.intro (@oq.eq_2)<|And.intro (@Nat.zero_add)<|And.intro (@T5)<|And.intro (@T6)<|And.intro (@vP.eq_1)<|And.intro (@vP.eq_2)<|And.intro (@E7)<|And.intro (@E8)<|And.intro (@E9)<|And.intro (@Bq)<|And.intro (@Bu)<|And.intro (@Bv)<|And.intro (@Bw)<|And.intro (@Bx)<|And.intro (@true_and)<|And.intro (@and_true)<|And.intro (@Option.map_some.{0,0})<|And.intro (@Option.bind_some.{0,0})<|And.intro (@FQ)<|And.intro (@jG.eq_1)<|And.intro (@jG.eq_2)<|And.intro (@jG.eq_3)<|And.intro (@jG.eq_4)<|And.intro (@jG.eq_5)<|And.intro (@aa)<|And.intro (@Uc)<|And.intro (@Ud)<|And.intro (@z7.eq_1)<|And.intro (@z7.eq_2)<|And.intro (@qB.eq_1)<|And.intro (@tD.eq_1)<|And.intro (@tD.eq_2)<|And.intro (@zw.eq_1)<|And.intro (@zw.eq_2)<|And.intro (@Uj)<|And.intro (@Uk)<|And.intro (@Ul)<|And.intro (@Yp)<|And.intro (@Yq)<|And.intro (@Ue)<|And.intro (@ZQ)<|And.intro (@List.map_cons.{0,0})<|And.intro (@List.map_nil.{0,0})<|And.intro (@decide_true)<|And.intro (@decide_false)<|And.intro (@fY)<|And.intro (@Bool.not_true)<|And.intro (@Bool.not_false)<|And.intro (@beq_self_eq_true.{0})<|And.intro (@bne_self_eq_false.{0})<|And.intro (@List.getElem?_cons_zero.{0})<|And.intro (@List.getElem?_cons_succ.{0})<|And.intro (@List.getElem?_nil.{0})<|And.intro (@List.length_map.{0,0})<|And.intro (@Bt)<|And.intro (@T.bool.injEq)<|And.intro (@T.int.injEq)<|And.intro (@T.str.injEq)<|And.intro (@T.bC.injEq)<|And.intro (@au.eq_1)<|And.intro (@au.eq_2)<|And.intro (@au.eq_3)<|And.intro (@au.eq_4)<|And.intro (@au.eq_5)<|And.intro (@au.eq_6)<|And.intro (@au.eq_7)<|And.intro (@au.eq_8)<|And.intro (@au.eq_9)<|And.intro (@au.eq_10)<|And.intro (@au.eq_11)<|And.intro (@au.eq_12)<|And.intro (@au.eq_13)<|And.intro (@au.eq_14)<|And.intro (@au.eq_15)<|And.intro (@au.eq_16)<|And.intro (@au.eq_17)<|And.intro (@au.eq_18)<|And.intro (@au.eq_19)<|And.intro (@au.eq_20)<|And.intro (@au.eq_21)<|And.intro (@au.eq_22)<|And.intro (@au.eq_23)<|And.intro (@au.eq_24)<|And.intro (@au.eq_25)<|And.intro (@au.eq_26)<|And.intro (@FC)<|And.intro (@ym)<|And.intro (@FE)<|And.intro (@yn)<|And.intro (@FF)<|And.intro (@FG)<|And.intro (@FH)<|And.intro (@yo)<|And.intro (@FI)<|And.intro (@FJ)<|And.intro (@FK)<|And.intro (@oO)<|And.intro (@au.eq_30)<|And.intro (@au.eq_31)<|And.intro (@au.eq_32)<|And.intro (@au.eq_33)<|And.intro (@au.eq_34)<|And.intro (@au.eq_35)<|And.intro (@au.eq_36)<|And.intro (@Fz)<|And.intro (@FA)<|And.intro (@yj)<|And.intro (@fZ)<|And.intro (@my)<|And.intro (@yp)<|And.intro (@nX)<|And.intro (@sk)<|And.intro (@yq)<|And.intro (@yr)<|And.intro (@uN)<|And.intro (@uO)<|And.intro (@FR)<|And.intro (@FT)<|And.intro (@FU)<|And.intro (@FV)<|And.intro (@FW)<|And.intro (@FX)<|And.intro (@FY)<|And.intro (@FZ)<|And.intro (@Ni)<|And.intro (@F4)<|And.intro (@F5)<|And.intro (@F6)<|And.intro (@F7)<|And.intro (@F9)<|And.intro (@Ga)<|And.intro (@Gb)<|And.intro (@Gc)<|And.intro (@Ge)<|And.intro (@Gf)<|And.intro (@Gg)<|And.intro (@Gh)<|And.intro (@Gi)<|(@Gj)):=And.intro (@T9)<|And.intro (@au.eq_37)<|And.intro (@au.eq_38)<|And.intro (@au.eq_43)<|And.intro (@au.eq_44)<|And.intro (@au.eq_45)<|And.intro (@Uf)<|And.intro (@Ug)<|And.intro (@Uh)<|And.intro (@hJ.eq_1)<|And.intro (@hJ.eq_2)<|And.intro (@FO)<|And.intro (@FP)<|And.intro (@Nf)<|And.intro (@Ng)<|And.intro (@Nh)<|And.intro (@Fc)<|And.intro (@List.nil_append.{0})<|And.intro (@List.append_nil.{0})<|And.intro (@List.cons_append.{0})<|And.intro (@FL)<|And.intro (@FM)<|And.intro (@BC)<|And.intro (@Nd)<|And.intro (@FN)<|And.intro (@vU)<|And.intro (@BD)<|And.intro (@BE)<|And.intro (@yv)<|And.intro (@fO.eq_1)<|And.intro (@fO.eq_2)<|And.intro (@nr.eq_1)<|And.intro (@nr.eq_2)<|And.intro (@jT.eq_1)<|And.intro (@jT.eq_2)<|And.intro (@jU.eq_1)<|And.intro (@jU.eq_2)<|And.intro (@List.replicate_zero.{0})<|And.intro (@List.replicate_succ.{0})<|And.intro (@List.set_cons_zero.{0})<|And.intro (@List.set_cons_succ.{0})<|And.intro (@List.all_cons.{0})<|And.intro (@List.all_nil.{0})<|And.intro (@Bool.and_true)<|And.intro (@Bool.true_and)<|And.intro (@bZ)<|And.intro (@Bz)<|And.intro (@nW)<|And.intro (@BA)<|And.intro (@jb)<|And.intro (@BB)<|And.intro (@Gk)<|And.intro (@Gl)<|And.intro (@Gm)<|And.intro (@Gn)<|And.intro (@Gp)<|And.intro (@Gq)<|And.intro (@MU)<|And.intro (@b_b)<|And.intro (@b_g)<|And.intro (@b_c)<|And.intro (@T8)<|And.intro (@Fe)<|And.intro (@MV)<|And.intro (@MW)<|And.intro (@Ff)<|And.intro (@Fg)<|And.intro (@Fh)<|And.intro (@MX)<|And.intro (@Br)<|And.intro (@gq)<|And.intro (@Fi)<|And.intro (@qU)<|And.intro (@Fj)<|And.intro (@MY)<|And.intro (@Fk)<|And.intro (@Bs)<|And.intro (@cX)<|And.intro (@Fl)<|And.intro (@Fm)<|And.intro (@ej)<|And.intro (@Fo)<|And.intro (@Fp)<|And.intro (@MZ)<|And.intro (@M0)<|And.intro (@M3)<|And.intro (@Bool.false_eq_true)<|And.intro (@Fq)<|And.intro (@Fs)<|And.intro (@M4)<|And.intro (@M7)<|And.intro (@M5)<|And.intro (@M6)<|And.intro (@yg)<|And.intro (@uL)<|And.intro (@List.length_cons.{0})<|And.intro (@List.length_nil.{0})<|And.intro (@List.drop_succ_cons.{0})<|And.intro (@List.drop_zero.{0})<|And.intro (@List.take_succ_cons.{0})<|And.intro (@List.take_zero.{0})<|And.intro (@uP)<|And.intro (@uQ)<|And.intro (@uR)<|And.intro (@sm)<|And.intro (@yu)<|And.intro (@uS)<|And.intro (@uT)<|And.intro (@uU)<|And.intro (@sn)<|And.intro (@su)<|And.intro (@oq.eq_1)<|And.intro (@oq.eq_2)<|And.intro (@Nat.zero_add)<|And.intro (@T5)<|And.intro (@T6)<|And.intro (@vP.eq_1)<|And.intro (@vP.eq_2)<|And.intro (@E7)<|And.intro (@E8)<|And.intro (@E9)<|And.intro (@Bq)<|And.intro (@Bu)<|And.intro (@Bv)<|And.intro (@Bw)<|And.intro (@Bx)<|And.intro (@true_and)<|And.intro (@and_true)<|And.intro (@Option.map_some.{0,0})<|And.intro (@Option.bind_some.{0,0})<|And.intro (@FQ)<|And.intro (@jG.eq_1)<|And.intro (@jG.eq_2)<|And.intro (@jG.eq_3)<|And.intro (@jG.eq_4)<|And.intro (@jG.eq_5)<|And.intro (@aa)<|And.intro (@Uc)<|And.intro (@Ud)<|And.intro (@z7.eq_1)<|And.intro (@z7.eq_2)<|And.intro (@qB.eq_1)<|And.intro (@tD.eq_1)<|And.intro (@tD.eq_2)<|And.intro (@zw.eq_1)<|And.intro (@zw.eq_2)<|And.intro (@Uj)<|And.intro (@Uk)<|And.intro (@Ul)<|And.intro (@Yp)<|And.intro (@Yq)<|And.intro (@Ue)<|And.intro (@ZQ)<|And.intro (@List.map_cons.{0,0})<|And.intro (@List.map_nil.{0,0})<|And.intro (@decide_true)<|And.intro (@decide_false)<|And.intro (@fY)<|And.intro (@Bool.not_true)<|And.intro (@Bool.not_false)<|And.intro (@beq_self_eq_true.{0})<|And.intro (@bne_self_eq_false.{0})<|And.intro (@List.getElem?_cons_zero.{0})<|And.intro (@List.getElem?_cons_succ.{0})<|And.intro (@List.getElem?_nil.{0})<|And.intro (@List.length_map.{0,0})<|And.intro (@Bt)<|And.intro (@T.bool.injEq)<|And.intro (@T.int.injEq)<|And.intro (@T.str.injEq)<|And.intro (@T.bC.injEq)<|And.intro (@au.eq_1)<|And.intro (@au.eq_2)<|And.intro (@au.eq_3)<|And.intro (@au.eq_4)<|And.intro (@au.eq_5)<|And.intro (@au.eq_6)<|And.intro (@au.eq_7)<|And.intro (@au.eq_8)<|And.intro (@au.eq_9)<|And.intro (@au.eq_10)<|And.intro (@au.eq_11)<|And.intro (@au.eq_12)<|And.intro (@au.eq_13)<|And.intro (@au.eq_14)<|And.intro (@au.eq_15)<|And.intro (@au.eq_16)<|And.intro (@au.eq_17)<|And.intro (@au.eq_18)<|And.intro (@au.eq_19)<|And.intro (@au.eq_20)<|And.intro (@au.eq_21)<|And.intro (@au.eq_22)<|And.intro (@au.eq_23)<|And.intro (@au.eq_24)<|And.intro (@au.eq_25)<|And.intro (@au.eq_26)<|And.intro (@FC)<|And.intro (@ym)<|And.intro (@FE)<|And.intro (@yn)<|And.intro (@FF)<|And.intro (@FG)<|And.intro (@FH)<|And.intro (@yo)<|And.intro (@FI)<|And.intro (@FJ)<|And.intro (@FK)<|And.intro (@oO)<|And.intro (@au.eq_30)<|And.intro (@au.eq_31)<|And.intro (@au.eq_32)<|And.intro (@au.eq_33)<|And.intro (@au.eq_34)<|And.intro (@au.eq_35)<|And.intro (@au.eq_36)<|And.intro (@Fz)<|And.intro (@FA)<|And.intro (@yj)<|And.intro (@fZ)<|And.intro (@my)<|And.intro (@yp)<|And.intro (@nX)<|And.intro (@sk)<|And.intro (@yq)<|And.intro (@yr)<|And.intro (@uN)<|And.intro (@uO)<|And.intro (@FR)<|And.intro (@FT)<|And.intro (@FU)<|And.intro (@FV)<|And.intro (@FW)<|And.intro (@FX)<|And.intro (@FY)<|And.intro (@FZ)<|And.intro (@Ni)<|And.intro (@F4)<|And.intro (@F5)<|And.intro (@F6)<|And.intro (@F7)<|And.intro (@F9)<|And.intro (@Ga)<|And.intro (@Gb)<|And.intro (@Gc)<|And.intro (@Ge)<|And.intro (@Gf)<|And.intro (@Gg)<|And.intro (@Gh)<|And.intro (@Gi)<|(@Gj)
theorem S2:type_of% (And.intro (@not_false_eq_true)<|And.intro (@ne_eq.{1})<|And.intro (@Nat.lt_succ_self)<|And.intro (@aE)<|And.intro (@aR)<|And.intro (@bQ)<|And.intro (@bm)<|And.intro (@vR)<|And.intro (@M9)<|And.intro (@Na)<|And.intro (@Nb)<|And.intro (@Nc)<|And.intro (@List.nil_append.{0})<|And.intro (@List.append_nil.{0})<|And.intro (@List.cons_append.{0}) (@List.drop_nil.{0})):=And.intro (@not_false_eq_true)<|And.intro (@ne_eq.{1})<|And.intro (@Nat.lt_succ_self)<|And.intro (@aE)<|And.intro (@aR)<|And.intro (@bQ)<|And.intro (@bm)<|And.intro (@vR)<|And.intro (@M9)<|And.intro (@Na)<|And.intro (@Nb)<|And.intro (@Nc)<|And.intro (@List.nil_append.{0})<|And.intro (@List.append_nil.{0})<|And.intro (@List.cons_append.{0}) (@List.drop_nil.{0})
theorem Nj (H:af)(x:B):(H++[x]).length=H.length+1:=by simp
theorem Um {b n:Nat}(h:b<n):(b<n+1)=True:=by simp;omega
theorem S3:type_of% (And.intro (@Nj)<|And.intro (@Um) (@Nat.add_assoc)):=And.intro (@Nj)<|And.intro (@Um) (@Nat.add_assoc)
section
variable {α:Type} {enc:α→List T} {n:Nat}
def aP (enc:α→List T)(xs:List α):List T:=xs.flatMap enc
theorem dy (hn:∀x,(enc x).length=n):∀xs:List α,(aP enc xs).length=xs.length*n
 | []=>by simp[aP]
 | x :: xs=>by
  have:=dy hn xs
  simp only[aP,List.flatMap_cons,List.length_append,hn,List.length_cons]at this ⊢
  rw[this,Nat.add_mul];omega
theorem mz (hn:∀x,(enc x).length=n):∀(xs:List α) (i:Nat),(aP enc xs).drop (i*n)=aP enc (xs.drop i)
 | xs,0=>by simp
 | [],i+1=>by simp[aP]
 | x :: xs,i+1=>by
  have:=mz hn xs i
  simp only[aP,List.flatMap_cons,List.drop_succ_cons]at this ⊢
  rw[show(i+1)*n=(enc x).length+i*n by rw[hn,Nat.add_mul];omega,List.drop_append,List.drop_eq_nil_of_le (by omega)]
  simp[this]
theorem kc (hn:∀x,(enc x).length=n):∀(xs:List α) (i:Nat),(aP enc xs).take (i*n)=aP enc (xs.take i)
 | xs,0=>by simp[aP]
 | [],i+1=>by simp[aP]
 | x :: xs,i+1=>by
  have:=kc hn xs i
  simp only[aP,List.flatMap_cons,List.take_succ_cons]at this ⊢
  rw[show(i+1)*n=(enc x).length+i*n by rw[hn,Nat.add_mul];omega,List.take_append,List.take_of_length_le (by omega)]
  simp[this]
theorem eD (hn:∀x,(enc x).length=n){xs:List α}{i:Nat}{x:α}(hx:xs[i]?=some x)(off m:Nat)(h:off+m≤n):mr m (i*n+off) (some (.cells (aP enc xs)))=some (((enc x).drop off).take m):=by
 have hi:=(List.getElem?_eq_some_iff.1 hx).1
 have h1:i*n+n≤xs.length*n:=by rw[←Nat.succ_mul];exact Nat.mul_le_mul_right n hi
 have e:(aP enc xs).drop (i*n)=enc x++aP enc (xs.drop (i+1)):=by
  rw[mz hn,List.drop_eq_getElem_cons hi]
  have:xs[i]=x:=(List.getElem?_eq_some_iff.1 hx).2
  rw[this];rfl
 rw[nW,if_pos (by rw[dy hn];omega),←List.drop_drop,e,List.drop_append,List.take_append,hn]
 rw[show m-((enc x).drop off).length=0 by rw[List.length_drop,hn];omega]
 simp
theorem mT (hn:∀x,(enc x).length=n){xs:List α}{i:Nat}{x y:α}(hx:xs[i]?=some x)(H:af)(b:Nat)(vs:List T)(off:Nat)(h:off+vs.length≤n)(hy:enc y=(enc x).take off++vs++(enc x).drop (off+vs.length)) :
  qD H b vs (i*n+off) (some (.cells (aP enc xs)))=some (H.set b (.cells (aP enc (xs.set i y)))):=by
 have hi:=(List.getElem?_eq_some_iff.1 hx).1
 have hxi:xs[i]=x:=(List.getElem?_eq_some_iff.1 hx).2
 have h1:i*n+n≤xs.length*n:=by rw[←Nat.succ_mul];exact Nat.mul_le_mul_right n hi
 rw[jb,if_pos (by rw[dy hn];omega)]
 have e:(aP enc xs).drop (i*n)=enc x++aP enc (xs.drop (i+1)):=by
  rw[mz hn,List.drop_eq_getElem_cons hi,hxi];rfl
 have t:(aP enc xs).take (i*n+off)=aP enc (xs.take i)++(enc x).take off:=by
  rw[List.take_add,kc hn,e,List.take_append,hn,show off-n=0 by omega];simp
 have d:(aP enc xs).drop (i*n+off+vs.length)=(enc x).drop (off+vs.length)++aP enc (xs.drop (i+1)):=by
  rw[Nat.add_assoc,←List.drop_drop,e,List.drop_append,hn,show off+vs.length-n=0 by omega];simp
 rw[t,d]
 have:xs.set i y=xs.take i++y :: xs.drop (i+1):=by rw[List.set_eq_take_append_cons_drop,if_pos hi]
 rw[this]
 simp only[aP,List.flatMap_append,List.flatMap_cons,hy,List.append_assoc]
theorem K3 (k:Nat)(z:α):(List.replicate k (enc z)).flatten=aP enc (List.replicate k z):=by
 induction k with
 | zero=>rfl
 | succ k ih=>simp only[List.replicate_succ,List.flatten_cons,ih,aP,List.flatMap_cons]
end
theorem lA (n i b off len:Nat):dK n i (.aC b off len n)=if i<len then if n=0 then none else some (.ptr b (off+i*n))else none:=by
 simp only[dK,true_and,ne_eq]
 by_cases h:i<len<;>by_cases h':n=0<;>simp[h,h']
def eU (n:Nat):List T:=[.int .u64 n]
def fK (n0:Nat)(H:af)(k:SK):Prop:=k=.nil∨k=.full∨∃t e,k=.own t e∧n0≤t∧H[t]?=some (.tok e)
structure oP (n0:Nat)(H:af)(k:SK)(H':af):Prop where
 len:H.length≤H'.length
 get:∀b x,H[b]?=some x→(∀e,k≠.own b e)→H'[b]?=some x
 ext:∀H0:af,H0.length≤n0→Ext H0 H→Ext H0 H'
theorem oP.cells {n0:Nat}{H H':af}{k:SK}(h:oP n0 H k H')(ha:fK n0 H k){b:Nat}{x:B}(hx:H[b]?=some x)(ht:∀e,x≠.tok e):H'[b]?=some x:=h.get b x hx fun e he=>by
 rcases ha with h|h|⟨t,e',h,_,h'⟩
 ·rw[he]at h;cases h
 ·rw[he]at h;cases h
 ·rw[he]at h;cases h;rw[hx]at h';cases h';exact ht _ rfl
theorem gC {n0:Nat}{H:af}{k:SK}{bytes:Nat}(es new:List (List T))(hk:fK n0 H k)(iA:n0≤H.length)(jr:new≠[])(hr:db (es.length+new.length) bytes=true) :
  ∃k' H',fP H bytes k es new=some (.sl k' (es++new.map (·.map T.erase)),H')∧fK n0 H' k'∧oP n0 H k H':=by
 unfold fP
 cases new with
 | nil=>exact absurd rfl jr
 | cons c new =>
  simp only[hr,if_true]
  rcases hk with rfl|rfl|⟨t,e,rfl,ht,hg⟩
  ·exact⟨_,_,rfl,.inr (.inr ⟨_,_,rfl,iA,aE rfl⟩),⟨by simp,fun b x hx _=>by rw[aR (aQ hx)];exact hx,fun H0 _ h=>h.app _⟩⟩
  ·exact⟨_,_,rfl,.inr (.inr ⟨_,_,rfl,iA,aE rfl⟩),⟨by simp,fun b x hx _=>by rw[aR (aQ hx)];exact hx,fun H0 _ h=>h.app _⟩⟩
  ·simp only[hg,if_true]
   refine⟨_,_,rfl,.inr (.inr ⟨_,_,rfl,ht,bQ (aQ hg)⟩),⟨by simp,fun b x hx bF=>?_,fun H0 h0 h=>h.set (Nat.le_trans h0 ht) _⟩⟩
   have:t≠b:=fun h=>bF e (by rw[h])
   rw[bm this];exact hx
theorem ft (n0:Nat)(H:af):fK n0 H .nil:=.inl rfl
theorem fK.ext {n0:Nat}{H H':af}{k:SK}(h:fK n0 H k)(hx:Ext H H'):fK n0 H' k:=by
 rcases h with h|h|⟨t,e,h,h1,h2⟩
 ·exact .inl h
 ·exact .inr (.inl h)
 ·exact .inr (.inr ⟨t,e,h,h1,hx.get h2⟩)
theorem fK.set {n0:Nat}{H:af}{k:SK}(h:fK n0 H k){c:Nat}{x:B}(hx:H[c]?=some x)(ht:∀e,x≠.tok e)(y:B):fK n0 (H.set c y) k:=by
 rcases h with h|h|⟨t,e,h,h1,h2⟩
 ·exact .inl h
 ·exact .inr (.inl h)
 ·refine .inr (.inr ⟨t,e,h,h1,?_⟩)
  have:c≠t:=fun he=>by subst he;rw[hx]at h2;cases h2;exact ht _ rfl
  rw[bm this];exact h2
theorem Gr {n b:Nat}{res:List Rs}{Q:Out→af→Prop}{R:ax}{H:af}(h:R n=.bC [.ptr b 0])(hd:H[b]?=some .AR)
  (hq:match qB R (H.set b .dead) res with|some v=>Q (.val v) (H.set b .dead)|none=>False):Ua n res Q (.ex .ret R) H :=
 ⟨[b],by rw[h];rfl,by simp,by simp[hd],hq⟩
theorem Nk (b:Nat):ou (.bC []) b=.bC [.ptr b 0]:=rfl
theorem ga {n m:Nat}(h:(n+n/4+512)*m≤281474976710656):db n m=true:=by simp[db,h]
theorem all_map {α:Type}{enc:α→List T}{n:Nat}(hn:∀x,(enc x).length=n)(l:List α):(l.map enc).all (fun c=>c.length==n)=true:=by simp[hn]
def lB {α:Type}(enc:α→List T)(n n0:Nat)(H:af)(t:T)(l:List α):Prop :=
 (l=[]∧t=.sl .nil [])∨∃b,t=.aC b 0 l.length n∧H[b]?=some (.cells (aP enc l))∧n0≤b
theorem kY {α:Type}(enc:α→List T)(n n0:Nat)(H:af):lB enc n n0 H (.sl .nil []) []:=.inl ⟨rfl,rfl⟩
theorem lB.ext {α:Type}{enc:α→List T}{n n0:Nat}{H H':af}{t:T}{l:List α}(h:lB enc n n0 H t l)(hx:Ext H H'):lB enc n n0 H' t l:=by
 rcases h with h|⟨b,h1,h2,h3⟩
 ·exact .inl h
 ·exact .inr ⟨b,h1,hx.get h2,h3⟩
theorem lB.len {α:Type}{enc:α→List T}{n n0:Nat}{H:af}{t:T}{l:List α}(h:lB enc n n0 H t l):jG H .sl t=some l.length:=by
 rcases h with⟨rfl,rfl⟩|⟨b,rfl,_,_⟩<;>rfl
structure Nl (n0:Nat)(H:af)(t:T)(H':af):Prop where
 len:H.length≤H'.length
 get:∀b x,H[b]?=some x→(∀off len n,t≠.aC b off len n)→H'[b]?=some x
 ext:∀H0:af,H0.length≤n0→Ext H0 H→Ext H0 H'
theorem mU {α:Type}{enc:α→List T}{n n0:Nat}(hn:∀x,(enc x).length=n){H:af}{t:T}{l:List α}{bytes:Nat}(new:List α)(h:lB enc n n0 H t l)(iA:n0≤H.length)(jr:new≠[])(hr:db (l.length+new.length) bytes=true) :
  ∃t' H',lT H n bytes t (new.map enc)=some (t',H')∧lB enc n n0 H' t' (l++new)∧Nl n0 H t H':=by
 have ti:(new.map enc).flatten=aP enc new:=by simp[aP,List.flatMap]
 have rZ:∀l:List α,aP enc l++aP enc new=aP enc (l++new):=fun l=>by simp[aP]
 unfold lT
 cases new with
 | nil=>exact absurd rfl jr
 | cons c new =>
  rcases h with⟨rfl,rfl⟩|⟨b,rfl,hb,DS⟩
  ·simp only[List.map_cons,List.length_cons,List.length_nil,List.length_map,Nat.zero_add]at hr ti ⊢
   simp only[hr,and_true,if_true]
   refine⟨_,_,rfl,.inr ⟨H.length,by simp,?_,iA⟩,⟨by simp,fun b x hx _=>by rw[aR (aQ hx)];exact hx,fun H0 _ h=>h.app _⟩⟩
   rw[aE rfl,ti];rfl
  ·have hc:l.length*n=(aP enc l).length:=(dy hn l).symm
   simp only[List.map_cons,List.length_cons,List.length_map]at hr ti ⊢
   simp only[hb,hc,hr,and_self,if_true]
   refine⟨_,_,rfl,.inr ⟨H.length,by simp,?_,iA⟩,⟨by simp,fun b' x hx bF=>?_,fun H0 h0 h=>(h.set (Nat.le_trans h0 DS) _).app _⟩⟩
   ·rw[aE (by simp),ti,rZ]
   ·have Nn:b≠b':=fun e=>bF 0 l.length n (by rw[e])
    rw[aR (by rw[List.length_set];exact aQ hx),bm Nn];exact hx
theorem vV {α:Type}{enc:α→List T}{n:Nat}(hn:∀x,(enc x).length=n)(l:List α):tE (aP enc l) 0 l.length n=l.map enc:=by
 unfold tE
 refine List.ext_getElem? fun i=>?_
 by_cases hi:i<l.length
 ·have:=eD hn (List.getElem?_eq_getElem hi) 0 n (by omega)
  rw[nW]at this
  split at this
  ·simp only[Option.some.injEq,Nat.add_zero,List.drop_zero]at this
   simp only[List.getElem?_map,List.getElem?_range hi,Option.map_some,Nat.zero_add,this,List.getElem?_eq_getElem hi]
   rw[List.take_of_length_le (by rw[hn];omega)]
  ·cases this
 ·rw[List.getElem?_eq_none (by simp;omega),List.getElem?_eq_none (by simp;omega)]
theorem W.xw {α:Type}{enc:α→List T}{n:Nat}(hn:∀x,(enc x).length=n){E:Env}{f:Nat}{az:List T}{H:af}{l:List α}{Q:Out→af→Prop}
  (h:W E (.call f az) H (fun o H'=>∃b,o=.val (.aC b 0 l.length n)∧H'[b]?=some (.cells (aP enc l))∧Q (.val (.sl .arg (l.map enc))) (H'.set b .dead))):W E (.call f az) H Q:=by
 refine .qN _ h fun o H' ⟨b,ho,hb,hq⟩=>⟨_,b,_,ho,rfl,hb,?_⟩
 have hc:0+l.length*n≤(aP enc l).length:=by rw[dy hn];omega
 simp only[zx,Go.Rmp.xw,hc,and_self,if_true,vV hn]
 exact hq
end Go.Rmp
end
