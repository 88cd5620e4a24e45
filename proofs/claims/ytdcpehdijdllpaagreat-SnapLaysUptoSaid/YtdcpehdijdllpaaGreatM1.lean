/- Part of a proof of a law of this seat: the machine of plain values, its simulation, and the contracts of the functions that the law reaches. Conditions: none beyond the given row. -/
import Derived.Test.YtdcpehdijdllpaaGreatM0
import Derived.RangeFuncRecord
import Derived.RangeFuncIn
import Derived.OpenShut
import Derived.RowKit3
import Derived.ChangeSame
import Derived.ReadAgain
import Derived.ChangeCalls
import Derived.Deep.Frames
import Derived.Laws.Strings
open Int renaming reduceLT → q6, reduceLE → q7, reduceBEq → q8, reduceBNe → q9, reduceEq → y1
open Nat renaming reduceAdd → y2, reduceLeDiff → y3, reduceLT → y4, reduceEqDiff → y5
set_option linter.unusedSimpArgs false
set_option linter.unusedVariables false
set_option linter.unnecessarySimpa false
set_option maxHeartbeats 4000000
section
namespace Go.Rmp
section
variable {P:Program} {w0 w:World} {g:Ctx} {H H':af} {R:aw} {ρ:Operand→Value} {t:T}
theorem gq {ty:TypeId}{z:List T}(h:zeroOf P ty=some z):∃i zv,P.info? ty=some i∧i.zero=some zv∧fy zv.cells.toList=some z:=by
 unfold zeroOf at h
 cases h1:P.info? ty with
 | none=>simp[h1]at h
 | some i =>
  simp only[h1]at h
  cases h2:i.zero with
  | none=>simp[h2]at h
  | some zv=>simp only[h2]at h;exact⟨i,zv,rfl,h2,h⟩
theorem zu {jt:List TypeId}{rt:TypeId}{mu:Bool}{as:List X}{vs:List Value}{b:Bo}(hc:mG P mu jt as=some b)(h:SR w0 g H w)(hv:bL g w (as.map (X.ev R)) vs)(he:aq R H b=some (t,H')) :
  cf P w0 g H w (Builtin.append_ jt.toArray rt vs.toArray) t H':=by
 unfold mG at hc
 split at hc
 ·rename_i sT xT x y
  cases vs with
  | nil=>have:=hv.1;simp at this
  | cons vx vs =>
   cases vs with
   | nil=>have:=hv.1;simp at this
   | cons vy vs =>
    cases vs with
    | cons _ _=>have:=hv.1;simp at this
    | nil =>
     have hx:VR g w (x.ev R) vx:=hv.head
     have hy:VR g w (y.ev R) vy:=hv.tail.head
     cases hs:P.underlying sT with
     | none=>simp[hs]at hc
     | some ds =>
      cases Ke:P.underlying xT with
      | none=>cases ds<;>simp[hs,Ke]at hc
      | some dx =>
       cases ds<;>simp only[hs,Ke]at hc<;>(try (cases hc;done))
       rename_i e
       cases hi:P.info? e with
       | none=>simp[hi]at hc
       | some ei =>
        simp only[hi]at hc
        cases hz:ei.zero with
        | none=>simp[hz]at hc
        | some zv =>
         simp only[hz]at hc
         split at hc
         ·rename_i cI
          simp only[Bool.and_eq_true,beq_iff_eq,bne_iff_ne]at cI
          simp at hc;subst hc
          have E:pE P sT xT e ei zv ei.size ei.bytes:=⟨hs,hi,⟨dx,Ke,fun k e=>by subst e;simp[EC]at cI⟩,rfl,hz,cI.1.2,rfl,cI.2⟩
          simp only[aq]at he
          cases tH:bq H ei.size (y.ev R)with
          | none=>simp[tH]at he
          | some new =>
           simp only[tH]at he
           cases mu with
           | true =>
            simp only[if_true]at he
            exact Es E h hx.xd hy tH he
           | false =>
            simp only[Bool.false_eq_true,if_false]at he
            generalize x.ev R=tx at hx he
            cases tx<;>(try simp only[reduceCtorEq]at he)
            split at he
            ·rename_i bB
             exact J3 E h hx hy bB tH he
            ·cases he
         ·cases hc
 ·cases hc
theorem Kr {jt:List TypeId}{rt:TypeId}{as:List X}{vs:List Value}{b:Bo}(hc:xC P jt as=some b)(h:SR w0 g H w)(hv:bL g w (as.map (X.ev R)) vs)(he:aq R H b=some (t,H')) :
  cf P w0 g H w (Builtin.append_ jt.toArray rt vs.toArray) t H':=by
 unfold xC at hc
 split at hc
 ·rename_i sT xT x k
  cases vs with
  | nil=>have:=hv.1;simp at this
  | cons vx vs =>
   cases vs with
   | nil=>have:=hv.1;simp at this
   | cons vk vs =>
    cases vs with
    | cons _ _=>have:=hv.1;simp at this
    | nil =>
     have hx:VR g w (x.ev R) vx:=hv.head
     have hk:VR g w (k.ev R) vk:=hv.tail.head
     cases hs:P.underlying sT with
     | none=>simp[hs]at hc
     | some ds =>
      cases Ke:P.underlying xT with
      | none=>cases ds<;>simp[hs,Ke]at hc
      | some dx =>
       cases ds<;>cases dx<;>simp only[hs,Ke]at hc<;>(try (cases hc;done))
       rename_i e kn
       cases hi:P.info? e with
       | none=>simp[hi]at hc
       | some ei =>
        cases hz:zeroOf P e with
        | none=>simp[hi,hz]at hc
        | some z =>
         simp only[hi,hz]at hc
         split at hc
         ·rename_i cI
          simp only[bne_iff_ne,ne_eq]at cI
          simp only[Option.some.injEq]at hc;subst hc
          obtain⟨i,zv,h1,h2,h3⟩:=gq hz
          rw[hi]at h1;cases h1
          simp only[aq,Option.bind_eq_some_iff]at he
          obtain⟨kk,bO,he⟩:=he
          generalize k.ev R=tk at hk bO
          cases hk<;>simp only[cw]at bO<;>(try (cases bO;done))
          rename_i kq m
          split at bO
          ·rename_i hm
           simp only[Option.some.injEq]at bO
           subst bO
           have:=Kc (rt:=rt) (kq:=kq) hs Ke hi h2 h3 cI h hx he
           rw[Int.toNat_of_nonneg hm]at this
           exact this
          ·cases bO
         ·cases hc
 ·cases hc
theorem Ks {f:FuncId}{n:Nat}{x y:X}{args:Array Operand}{ρ:Operand→Value}(xe:AP P f=some n)(h:SR w0 g H w)(jk:bL g w ([x,y].map (X.ev R)) (args.toList.map ρ))(he:B9 H n (x.ev R) (y.ev R)=some (t,H')) :
  Kn P w0 g H w (callFunc f (args.map ρ)) t H':=by
 unfold AP at xe
 cases hf:P.funcs[f]? with
 | none=>simp[hf]at xe
 | some fn =>
  simp only[hf]at xe
  cases hp:fn.params[0]? with
  | none=>simp[hp]at xe
  | some tS =>
   simp only[hp]at xe
   cases ht:P.underlying tS with
   | none=>simp[ht]at xe
   | some d =>
    cases d<;>simp only[ht]at xe<;>(try (cases xe;done))
    rename_i e
    cases hi:P.info? e with
    | none=>simp[hi]at xe
    | some ei =>
     simp only[hi]at xe
     split at xe
     ·rename_i hc
      simp only[Option.some.injEq]at xe;subst xe
      simp only[Bool.and_eq_true,MR,Option.isNone_iff_eq_none,beq_iff_eq,bne_iff_ne,ne_eq]at hc
      obtain⟨⟨⟨⟨c1,c2⟩,c3⟩,c4⟩,⟨c5,c6⟩,c7⟩:=hc
      have Ts:Extern.find fn=some (Extern.SlicesOverlaps.overlaps fn.params fn.resultTypes):=by
       have r1:Extern.allGenericRows.lookup "slices.overlaps"=none:=by kernel_rfl
       have r2:Extern.allTypedRows.lookup "slices.overlaps"=some Extern.SlicesOverlaps.overlaps:=by kernel_rfl
       unfold Extern.find
       simp only[c4,c5,c6,c7,r1,r2,Option.map_none,Option.map_some]
       rfl
      cases ha:args.toList.map ρ with
      | nil=>rw[ha]at jk;have:=jk.1;simp at this
      | cons vx vs =>
       cases vs with
       | nil=>rw[ha]at jk;have:=jk.1;simp at this
       | cons vy vs =>
        cases vs with
        | cons _ _=>rw[ha]at jk;have:=jk.1;simp at this
        | nil =>
         rw[ha]at jk
         have hx:VR g w (x.ev R) vx:=jk.head
         have hy:VR g w (y.ev R) vy:=jk.tail.head
         have oI:args.map ρ=#[vx,vy]:=by apply Array.ext';simp[ha]
         obtain⟨v,w',g',h1,h2,h3,h4,h5⟩:=Kf (results:=fn.resultTypes) hp ht hi h hx hy he
         refine⟨.value v,v,w',g',?_,.inl rfl,h2,h3,h4,h5⟩
         rw[oI,run_callFunc_extern hf (by simpa using c1) (by simp[c2]) c3 Ts,h1]
         rfl
     ·cases xe
theorem xE {bi:Builtin}{jt:List TypeId}{rt:TypeId}{cs:Array Bool}{mu:Bool}{as:List X}{vs:List Value}{b:Bo}(hc:jW P mu bi jt as=some b)(h:SR w0 g H w)(hv:bL g w (as.map (X.ev R)) vs)(he:aq R H b=some (t,H')) :
  Kn P w0 g H w (builtin bi jt.toArray rt cs vs.toArray) t H':=by
 have two:∀(x y:X),as=[x,y]→∃vx vy,vs=[vx,vy]∧VR g w (x.ev R) vx∧VR g w (y.ev R) vy:=by
  rintro x y rfl
  cases vs with
  | nil=>have:=hv.1;simp at this
  | cons vx vs =>
   cases vs with
   | nil=>have:=hv.1;simp at this
   | cons vy vs =>
    cases vs with
    | cons _ _=>have:=hv.1;simp at this
    | nil=>exact⟨vx,vy,rfl,hv.head,hv.tail.head⟩
 unfold jW at hc
 split at hc
 ·cases hz:xC P jt as with
  | some b'=>rw[hz]at hc;simp only[Option.some.injEq]at hc;subst hc;exact(Kr hz h hv he).oh
  | none=>rw[hz]at hc;exact(zu hc h hv he).oh
 ·-- cap
  rename_i ty x
  cases vs with
  | nil=>have:=hv.1;simp at this
  | cons vx vs =>
   cases vs with
   | cons _ _=>have:=hv.1;simp at this
   | nil =>
    have hx:VR g w (x.ev R) vx:=hv.head
    cases hu:P.underlying ty with
    | none=>simp[hu]at hc
    | some d =>
     cases d<;>simp only[hu]at hc<;>(try (cases hc;done))
     simp only[Option.some.injEq]at hc;subst hc
     simp only[aq]at he
     generalize x.ev R=tx at hx he
     cases tx<;>simp only[reduceCtorEq,Option.some.injEq,Prod.mk.injEq]at he
     obtain⟨rfl,rfl⟩:=he
     exact(J8 hu h hx).oh
 ·-- copy
  rename_i dT sT x y
  obtain⟨vx,vy,rfl,hx,hy⟩:=two x y rfl
  cases hu:P.underlying dT with
  | none=>simp[hu]at hc
  | some d =>
   cases d<;>simp only[hu]at hc<;>(try (cases hc;done))
   rename_i e
   cases hi:P.info? e with
   | none=>simp[hi]at hc
   | some ei =>
    simp only[hi,Option.map_some,Option.some.injEq]at hc;subst hc
    simp only[aq]at he
    exact(J9 hu hi h hx hy he).oh
 ·-- len
  rename_i ty x
  cases vs with
  | nil=>have:=hv.1;simp at this
  | cons vx vs =>
   cases vs with
   | cons _ _=>have:=hv.1;simp at this
   | nil =>
    have hx:VR g w (x.ev R) vx:=hv.head
    cases hu:P.underlying ty with
    | none=>simp[hu]at hc
    | some d =>
     have hl:∃k,YG k d=true∧b=.len k x:=by
      cases d<;>simp[hu]at hc
      ·exact⟨.str,rfl,hc.symm⟩
      ·exact⟨.sl,rfl,hc.symm⟩
      ·exact⟨.map,rfl,hc.symm⟩
     obtain⟨k,hk,rfl⟩:=hl
     simp only[aq,Option.map_eq_some_iff,Prod.mk.injEq]at he
     obtain⟨n,h1,rfl,rfl⟩:=he
     exact(JK hu hk h hx h1).oh
 ·-- clear
  rename_i ty x
  cases vs with
  | nil=>have:=hv.1;simp at this
  | cons vx vs =>
   cases vs with
   | cons _ _=>have:=hv.1;simp at this
   | nil =>
    have hx:VR g w (x.ev R) vx:=hv.head
    cases hu:P.underlying ty with
    | none=>simp[hu]at hc
    | some d =>
     cases d<;>simp only[hu]at hc<;>(try (cases hc;done))
     rename_i e
     cases hi:P.info? e with
     | none=>simp[hi]at hc
     | some ei =>
      cases hz:zeroOf P e with
      | none=>simp[hi,hz]at hc
      | some z =>
       simp only[hi,hz,Option.some.injEq]at hc;subst hc
       obtain⟨i,zv,k1,k2,k3⟩:=gq hz
       rw[hi]at k1;cases k1
       simp only[aq]at he
       generalize x.ev R=tx at hx he
       cases tx<;>(try (simp only[reduceCtorEq]at he;done))
       rename_i bb off len n'
       simp only at he
       cases hb:H[bb]? with
       | none=>simp[hb]at he
       | some y =>
        cases y<;>simp only[hb]at he<;>(try (cases he;done))
        rename_i cs'
        split at he
        ·rename_i vL
         obtain⟨rfl,xA,hle⟩:=vL
         simp only[Option.some.injEq,Prod.mk.injEq]at he
         obtain⟨rfl,rfl⟩:=he
         exact(Km hu hi k2 k3 h hx hb xA hle).oh
        ·cases he
 ·rename_i x y
  obtain⟨vx,vy,rfl,hx,hy⟩:=two x y rfl
  simp at hc;subst hc
  simp only[aq]at he
  generalize x.ev R=tx at hx he
  generalize y.ev R=OF at hy he
  cases tx<;>cases OF<;>simp only[reduceCtorEq,Option.some.injEq,Prod.mk.injEq]at he
  obtain⟨rfl,rfl⟩:=he
  exact(Oj h hx hy).oh
 ·rename_i x y
  obtain⟨vx,vy,rfl,hx,hy⟩:=two x y rfl
  simp at hc;subst hc
  simp only[aq]at he
  generalize x.ev R=tx at hx he
  generalize y.ev R=OF at hy he
  cases tx<;>cases OF<;>simp only[reduceCtorEq,Option.some.injEq,Prod.mk.injEq]at he
  obtain⟨rfl,rfl⟩:=he
  exact(Ol h hx hy).oh
 ·-- delete
  rename_i ty xt m k
  obtain⟨vm,vk,rfl,hm,hk⟩:=two m k rfl
  cases hu:P.underlying ty with
  | none=>simp[hu]at hc
  | some d =>
   cases d<;>simp only[hu]at hc<;>(try (cases hc;done))
   rename_i key elem
   cases kF:vN P key with
   | none=>simp[kF]at hc
   | some kt =>
    simp only[kF]at hc
    split at hc
    ·rename_i py
     simp at hc;subst hc
     simp only[aq]at he
     generalize m.ev R=tm at hm he
     cases tm<;>(try simp only[reduceCtorEq]at he)
     rename_i bb
     split at he
     ·rename_i zn
      cases hb:H[bb]? with
      | none=>simp[hb]at he
      | some z =>
       cases z<;>simp only[hb]at he<;>(try (cases he;done))
       rename_i es
       cases hr:dt (k.ev R) es with
       | none=>simp[hr]at he
       | some r =>
        have:=JZ (rt:=rt) (xt:=xt) hu py h hm hk zn hb hr
        cases r with
        | none=>simp only[hr,Option.some.injEq,Prod.mk.injEq]at he;obtain⟨rfl,rfl⟩:=he;exact this.oh
        | some i=>simp only[hr,Option.some.injEq,Prod.mk.injEq]at he;obtain⟨rfl,rfl⟩:=he;exact this.oh
     ·cases he
    ·cases hc
 ·cases hc
theorem AS {ty:TypeId}{m k:X}{e:Nat}{kt:KT}{z:T}(h:zt P ty m k=some (e,kt,z)):∃key ei zv,P.underlying ty=some (.map key e)∧P.info? e=some ei∧ei.zero=some zv∧nH zv=some z∧nI P key kt=true:=by
 unfold zt at h
 cases hu:P.underlying ty with
 | none=>simp[hu]at h
 | some d =>
  cases d<;>simp only[hu]at h<;>(try (cases h;done))
  rename_i key e'
  cases h1:vN P key with
  | none=>simp[h1]at h
  | some kt' =>
   cases h2:P.info? e' with
   | none=>simp[h1,h2]at h
   | some ei =>
    simp only[h1,h2]at h
    cases h3:ei.zero with
    | none=>simp[h3]at h
    | some zv =>
     simp only[h3]at h
     cases h4:nH zv with
     | none=>simp[h4]at h
     | some z' =>
      simp only[h4]at h
      split at h
      ·rename_i py
       simp at h
       obtain⟨rfl,rfl,rfl⟩:=h
       exact⟨key,ei,zv,rfl,h2,h3,h4,py⟩
      ·cases h
theorem AU {ty:TypeId}{m k v:X}{vm vk vv:Value}{e:Nat}{kt:KT}{z:T}(hc:zt P ty m k=some (e,kt,z))(h:SR w0 g H w)(hm:VR g w (m.ev R) vm)(hk:VR g w (k.ev R) vk)(hv:VR g w (v.ev R) vv)(he:aq R H (.AA kt m k v)=some (t,H')) :
  Kn P w0 g H w (do Instr.mapUpdate ty vm vk vv;pure Next.skip) t H':=by
 obtain⟨key,ei,zv,hu,hi,hz,qY,py⟩:=AS hc
 simp only[aq]at he
 generalize m.ev R=tm at hm he
 cases tm<;>(try simp only[reduceCtorEq]at he)
 rename_i bb
 split at he
 ·rename_i zn
  cases hb:H[bb]? with
  | none=>simp[hb]at he
  | some y =>
   cases y<;>simp only[hb]at he<;>(try (cases he;done))
   rename_i es
   cases hr:dt (k.ev R) es with
   | none=>simp[hr]at he
   | some r =>
    obtain⟨w',g',h1,h2,h3,h4⟩:=JY hu py h hm hk hv zn hb hr
    cases r with
    | none=>simp only[hr,Option.some.injEq,Prod.mk.injEq]at he;obtain⟨rfl,rfl⟩:=he;exact⟨.skip,undef,w',g',by simp[h1],.inr ⟨rfl,rfl⟩,h2,h3,iS,h4⟩
    | some i=>simp only[hr,Option.some.injEq,Prod.mk.injEq]at he;obtain⟨rfl,rfl⟩:=he;exact⟨.skip,undef,w',g',by simp[h1],.inr ⟨rfl,rfl⟩,h2,h3,iS,h4⟩
 ·cases he
theorem Kt {ty:TypeId}{m k:X}{vm vk:Value}{e:Nat}{kt:KT}{z:T}{ok:Bool}(hc:zt P ty m k=some (e,kt,z))(h:SR w0 g H w)(hm:VR g w (m.ev R) vm)(hk:VR g w (k.ev R) vk)(he:aq R H (.oq kt z ok m k)=some (t,H')) :
  cf P w0 g H w (Instr.lookup ty vm vk ok) t H':=by
 obtain⟨key,ei,zv,hu,hi,hz,qY,py⟩:=AS hc
 simp only[aq]at he
 split at he
 ·rename_i zn
  cases jg:hO H (m.ev R)with
  | none=>simp[jg]at he
  | some es =>
   simp only[jg]at he
   cases hr:dt (k.ev R) es with
   | none=>simp[hr]at he
   | some r =>
    cases r with
    | none =>
     simp only[hr,Option.some.injEq,Prod.mk.injEq]at he
     obtain⟨rfl,rfl⟩:=he
     exact AK hu hi hz qY py h hm hk zn jg hr rfl
    | some i =>
     simp only[hr]at he
     cases hx:es[i]? with
     | none=>simp[hx]at he
     | some x =>
      simp only[hx,Option.some.injEq,Prod.mk.injEq]at he
      obtain⟨rfl,rfl⟩:=he
      exact AK hu hi hz qY py h hm hk zn jg hr (by simp[hx])
 ·cases he
theorem Cx {ty:TypeId}{ps:List (Nat×X)}{pv:List (Nat×Value)}{b:Bo}(hc:pL P ty ps=some b)(h:SR w0 g H w)(hv:PV g w R ps pv)(he:aq R H b=some (t,H')):cf P w0 g H w (Instr.build ty pv.toArray) t H':=by
 unfold pL at hc
 cases hu:P.underlying ty with
 | none=>simp[hu]at hc
 | some d =>
  cases hz:zeroOf P ty with
  | none=>cases d<;>simp[hu,hz]at hc
  | some z =>
   cases d<;>simp only[hu,hz]at hc<;>(try (cases hc;done))
   rename_i fs
   split at hc
   ·rename_i cI
    simp only[Bool.and_eq_true]at cI
    simp only[Option.some.injEq]at hc;subst hc
    obtain⟨i,zv,h1,h2,h3⟩:=gq hz
    simp only[aq]at he
    split at he
    ·rename_i l hl
     simp only[Option.map_eq_some_iff,Prod.mk.injEq]at he
     obtain⟨cs,h4,rfl,rfl⟩:=he
     refine Cq hu h1 h2 h3 (fun f hf=>?_) (fun p hp=>?_) h hv hl h4
     ·have:=cI.1
      simp only[xD,List.all_eq_true]at this
      exact Option.isSome_iff_exists.1 (this f hf)
     ·have:=cI.2
      simp only[List.all_eq_true,decide_eq_true_eq]at this
      exact this p hp
    ·cases he
   ·cases hc
theorem Ku {ty:TypeId}{n:Nat}{ps:List (Nat×X)}{pv:List (Nat×Value)}{b:Bo}{mu:Bool}(hc:Cu P mu ty n ps=some b)(h:SR w0 g H w)(hv:PV g w R ps pv)(he:aq R H b=some (t,H')):cf P w0 g H w (Instr.buildSlice ty n pv.toArray) t H':=by
 unfold Cu at hc
 cases hu:P.underlying ty with
 | none=>simp[hu]at hc
 | some d =>
  cases d<;>simp only[hu]at hc<;>(try (cases hc;done))
  rename_i e
  cases hi:P.info? e with
  | none=>simp[hi]at hc
  | some ei =>
   cases hz:zeroOf P e with
   | none=>simp[hi,hz]at hc
   | some z =>
    simp only[hi,hz]at hc
    split at hc
    ·rename_i cI
     simp only[Bool.and_eq_true,beq_iff_eq,decide_eq_true_eq]at cI
     simp at hc;subst hc
     obtain⟨i,zv,h1,h2,h3⟩:=gq hz
     rw[hi]at h1;cases h1
     cases mu with
     | false =>
      simp only[Bool.false_eq_true,if_false,aq,Option.map_eq_some_iff,Prod.mk.injEq]at he
      obtain⟨fs,h4,rfl,rfl⟩:=he
      exact J5 hu hi h2 h3 cI.1 cI.2 h hv h4
     | true =>
      simp only[if_true,aq,Option.bind_eq_some_iff]at he
      obtain⟨fs,h4,he⟩:=he
      split at he
      ·simp only[Option.some.injEq,Prod.mk.injEq]at he
       obtain⟨rfl,rfl⟩:=he
       exact Kb hu hi h2 h3 cI.1 cI.2 h hv h4
      ·cases he
    ·cases hc
theorem Kv {ty:TypeId}{mu:Bool}{l c:X}{vl vc:Value}{b:Bo}(hc:Cv P mu ty l c=some b)(h:SR w0 g H w)(hl:VR g w (l.ev R) vl)(tM:VR g w (c.ev R) vc)(he:aq R H b=some (t,H')):cf P w0 g H w (Instr.makeSlice ty vl vc) t H':=by
 unfold Cv at hc
 cases hu:P.underlying ty with
 | none=>simp[hu]at hc
 | some d =>
  cases d<;>simp only[hu]at hc<;>(try (cases hc;done))
  rename_i e
  cases hi:P.info? e with
  | none=>simp[hi]at hc
  | some ei =>
   cases hz:zeroOf P e with
   | none=>simp[hi,hz]at hc
   | some z =>
    simp only[hi,hz]at hc
    split at hc
    ·rename_i cI
     simp only[Bool.and_eq_true,beq_iff_eq,bne_iff_ne]at cI
     simp at hc;subst hc
     obtain⟨i,zv,h1,h2,h3⟩:=gq hz
     rw[hi]at h1;cases h1
     simp only[aq]at he
     cases Jl:cw (l.ev R)with
     | none=>simp[Jl]at he
     | some nl =>
      cases Sk:cw (c.ev R)with
      | none=>simp[Jl,Sk]at he
      | some nc =>
       simp only[Jl,Sk]at he
       split at he
       ·rename_i jm
        refine J6 (mu:=mu) hu hi h2 h3 cI.1 cI.2 h hl tM Jl Sk jm.1 jm.2.1 jm.2.2 ?_
        cases mu with
        | true=>simpa using he
        | false =>
         simp only[Bool.false_eq_true,if_false]at he ⊢
         split at he
         ·rename_i e0;rw[if_pos e0];simpa using he
         ·rename_i e0;rw[if_neg e0];simpa using he
       ·cases he
    ·cases hc
theorem RV.get {xs:List Operand}(h:RV g w R ρ xs){x:Operand}{y:X}(hx:x∈xs)(hc:aO x=some y):VR g w (y.ev R) (ρ x):=h x hx y hc
theorem OI {mu:Bool}{o:Oper}{b:Bo}(hρ:∀f:FuncId,ρ (.func f)=.func (.func f) #[] #[])(hc:bM P mu o.op=some b)(h:SR w0 g H w)(hv:RV g w R ρ o.op.operands.toList)(he:aq R H b=some (t,H')):Kn P w0 g H w (execOp ρ o) t H':=by
 obtain⟨dst,op,ty,pos,after,guard⟩:=o
 cases op<;>simp only[bM]at hc<;>(try (cases hc;done))<;>simp only[Op.operands]at hv
 case move x =>
  simp only[Option.map_eq_some_iff]at hc
  obtain⟨y,h1,rfl⟩:=hc
  simp only[aq,Option.some.injEq,Prod.mk.injEq]at he
  obtain⟨rfl,rfl⟩:=he
  exact⟨_,_,w,g,rfl,.inl rfl,.refl _ _,h,hv.get (by simp) h1,.refl _ _⟩
 case assign x =>
  simp only[Option.map_eq_some_iff]at hc
  obtain⟨y,h1,rfl⟩:=hc
  simp only[aq,Option.some.injEq,Prod.mk.injEq]at he
  obtain⟨rfl,rfl⟩:=he
  exact⟨_,_,w,g,rfl,.inl rfl,.refl _ _,h,hv.get (by simp) h1,.refl _ _⟩
 case pick c x y =>
  cases h1:aO c with
  | none=>simp[h1]at hc
  | some c' =>
   cases h2:aO x with
   | none=>simp[h1,h2]at hc
   | some x' =>
    cases h3:aO y with
    | none=>simp[h1,h2,h3]at hc
    | some y' =>
     simp only[h1,h2,h3,Option.some.injEq]at hc
     subst hc
     have vc:=hv.get (by simp) h1
     have vx:=hv.get (by simp) h2
     have vy:=hv.get (by simp) h3
     simp only[aq]at he
     generalize c'.ev R=tc at vc he
     cases tc<;>(try simp only[reduceCtorEq]at he)
     simp only[Option.some.injEq,Prod.mk.injEq]at he
     obtain⟨rfl,rfl⟩:=he
     obtain⟨v,w',g',k1,k2⟩:=Ef (P:=P) h vc vx vy
     refine⟨.value v,v,w',g',?_,.inl rfl,k2⟩
     simp only[execOp,Sem.run_bind,Sem.run_pure]at k1 ⊢
     generalize (asBool (ρ c)).run P w=r at k1 ⊢
     cases r<;>simp_all
 case alloc uw =>
  simp only[Option.map_eq_some_iff]at hc
  obtain⟨z,h1,rfl⟩:=hc
  obtain⟨i,zv,h2,h3,h4⟩:=gq h1
  simp only[aq,Option.some.injEq,Prod.mk.injEq]at he
  obtain⟨rfl,rfl⟩:=he
  exact(Co h2 h3 h4 h).oh
 case box uw x =>
  simp only[Option.map_eq_some_iff]at hc
  obtain⟨y,h1,rfl⟩:=hc
  simp only[aq,Option.map_eq_some_iff,Prod.mk.injEq]at he
  obtain⟨cs,h2,rfl,rfl⟩:=he
  exact(JW h (hv.get (by simp) h1) h2).oh
 case build uw ps =>
  simp only[Option.bind_eq_some_iff]at hc
  obtain⟨qs,h1,h2⟩:=hc
  have hp:=pO (ρ:=ρ) _ _ h1 (by simpa using hv)
  have:=(Cx h2 h hp he).oh
  have e:(ps.map fun x=>(x.1,ρ x.2))=(ps.toList.map fun p=>(p.1,ρ p.2)).toArray:=by apply Array.ext';simp
  simp only[execOp]
  rw[e];exact this
 case buildSlice uw n ps =>
  simp only[Option.bind_eq_some_iff]at hc
  obtain⟨qs,h1,h2⟩:=hc
  have hp:=pO (ρ:=ρ) _ _ h1 (by simpa using hv)
  have:=(Ku h2 h hp he).oh
  have e:(ps.map fun x=>(x.1,ρ x.2))=(ps.toList.map fun p=>(p.1,ρ p.2)).toArray:=by apply Array.ext';simp
  simp only[execOp]
  rw[e];exact this
 case insert uw m k v =>
  cases h1:aO m with
  | none=>simp[h1]at hc
  | some m' =>
   cases h2:aO k with
   | none=>simp[h1,h2]at hc
   | some k' =>
    cases h3:aO v with
    | none=>simp[h1,h2,h3]at hc
    | some v' =>
     simp only[h1,h2,h3,Option.map_eq_some_iff]at hc
     obtain⟨⟨e,kt,z⟩,h4,rfl⟩:=hc
     exact AU h4 h (hv.get (by simp) h1) (hv.get (by simp) h2) (hv.get (by simp) h3) he
 case mapUpdate uw m k v =>
  cases h1:aO m with
  | none=>simp[h1]at hc
  | some m' =>
   cases h2:aO k with
   | none=>simp[h1,h2]at hc
   | some k' =>
    cases h3:aO v with
    | none=>simp[h1,h2,h3]at hc
    | some v' =>
     simp only[h1,h2,h3,Option.map_eq_some_iff]at hc
     obtain⟨⟨e,kt,z⟩,h4,rfl⟩:=hc
     exact AU h4 h (hv.get (by simp) h1) (hv.get (by simp) h2) (hv.get (by simp) h3) he
 case load uw x =>
  simp only[Option.bind_eq_some_iff]at hc
  obtain⟨y,h1,h2⟩:=hc
  exact ED h2 h (hv.get (by simp) h1) he
 case store uw a v =>
  cases h1:P.info? uw with
  | none=>simp[h1]at hc
  | some i =>
   cases h2:aO a with
   | none=>simp[h1,h2]at hc
   | some a' =>
    cases h3:aO v with
    | none=>simp[h1,h2,h3]at hc
    | some v' =>
     simp only[h1,h2,h3,Option.some.injEq]at hc
     subst hc
     simp only[aq]at he
     cases h4:(v'.ev R).cells? with
     | none=>simp[h4]at he
     | some vs =>
      simp only[h4]at he
      split at he
      ·rename_i hn
       simp only[Option.map_eq_some_iff,Prod.mk.injEq]at he
       obtain⟨H1,h5,rfl,rfl⟩:=he
       obtain⟨w',g',k1,k2,k3,k4⟩:=Oq (P:=P) h1 h (hv.get (by simp) h2) (hv.get (by simp) h3) h4 hn h5
       exact⟨.skip,undef,w',g',by simp[execOp,k1],.inr ⟨rfl,rfl⟩,k2,k3,iS,k4⟩
      ·cases he
 case nilCheck x =>
  simp only[Option.map_eq_some_iff]at hc
  obtain⟨y,h1,rfl⟩:=hc
  have vx:=hv.get (by simp) h1
  simp only[aq]at he
  have key:t=y.ev R∧H'=H∧∃v,(execOp ρ ⟨dst,.nilCheck x,ty,pos,after,guard⟩).run P w=.ok (.value v) w∧v=ρ x:=by
   simp only[execOp]
   generalize y.ev R=tx at vx he
   generalize ρ x=vv at vx
   cases vx<;>simp only[reduceCtorEq,Option.some.injEq,Prod.mk.injEq]at he<;>obtain⟨rfl,rfl⟩:=he<;>exact⟨rfl,rfl,_,rfl,rfl⟩
  obtain⟨rfl,rfl,v,k1,rfl⟩:=key
  exact⟨_,_,w,g,k1,.inl rfl,.refl _ _,h,vx,.refl _ _⟩
 case binOp op uw x y yt =>
  cases h1:aO x with
  | none=>simp[h1]at hc
  | some x' =>
   cases h2:aO y with
   | none=>simp[h1,h2]at hc
   | some y' =>
    simp only[h1,h2]at hc
    exact Ko hc h (hv.get (by simp) h1) (hv.get (by simp) h2) he
 case unOp op uw x =>
  simp only[Option.map_eq_some_iff]at hc
  obtain⟨y,h1,rfl⟩:=hc
  simp only[aq,Option.map_eq_some_iff,Prod.mk.injEq]at he
  obtain⟨t',h2,rfl,rfl⟩:=he
  exact(Of h (hv.get (by simp) h1) h2).oh
 case convert s d x =>
  simp only[Option.bind_eq_some_iff]at hc
  obtain⟨y,h1,h2⟩:=hc
  exact EE h2 h (hv.get (by simp) h1) he
 case makeFunc fn first lP =>
  cases fn<;>simp only[bM]at hc<;>(try (cases hc;done))
  rename_i f
  split at hc
  ·rename_i h0
   simp only[Option.map_eq_some_iff]at hc
   obtain⟨ys,h1,rfl⟩:=hc
   have:first=#[]:=Array.eq_empty_of_size_eq_zero h0
   subst this
   simp only[aq,Option.some.injEq,Prod.mk.injEq]at he
   obtain⟨rfl,rfl⟩:=he
   have jk:=gn (ρ:=ρ) _ _ h1 (fun x hx=>hv x (by simpa using hx))
   have:=(J7 (P:=P) (f:=f) h jk).oh
   have e:lP.map ρ=(lP.toList.map ρ).toArray:=by apply Array.ext';simp
   have e0:(#[]:Array Operand).map ρ=#[]:=by simp
   simp only[execOp]
   rw[e,e0];exact this
  ·cases hc
 case range uw m =>
  cases hu:P.underlying uw with
  | none=>simp[hu]at hc
  | some d =>
   cases d<;>simp only[hu]at hc<;>(try (cases hc;done))
   simp only[Option.map_eq_some_iff]at hc
   obtain⟨y,h1,rfl⟩:=hc
   have vm:=hv.get (by simp) h1
   simp only[aq]at he
   generalize y.ev R=tm at vm he
   cases tm<;>(try (simp only[reduceCtorEq]at he;done))
   rename_i bb
   simp only[Option.map_eq_some_iff,Prod.mk.injEq]at he
   obtain⟨es,h2,rfl,rfl⟩:=he
   exact(Kh hu h vm h2).oh
 case next it str =>
  cases str<;>simp only[bM]at hc<;>(try (cases hc;done))
  simp only[Option.map_eq_some_iff]at hc
  obtain⟨y,h1,rfl⟩:=hc
  simp[aq]at he
 case entry it =>
  simp only[Option.map_eq_some_iff]at hc
  obtain⟨y,h1,rfl⟩:=hc
  have vm:=hv.get (by simp) h1
  simp only[aq]at he
  generalize y.ev R=tm at vm he
  cases tm<;>(try (simp only[reduceCtorEq]at he;done))
  rename_i bi off
  cases off with
  | succ _=>simp at he
  | zero =>
   simp only at he
   cases hi:H[bi]? with
   | none=>simp[hi]at he
   | some yi =>
    cases yi<;>simp only[hi]at he<;>(try (cases he;done))
    rename_i bb
    cases hb:H[bb]? with
    | none=>simp[hb]at he
    | some yb =>
     cases yb<;>simp only[hb]at he<;>(try (cases he;done))
     rename_i es ix SW cur
     cases cur with
     | none=>simp at he
     | some c =>
      simp only at he
      split at he
      ·rename_i e;subst e
       simp only[Option.map_eq_some_iff,Prod.mk.injEq]at he
       obtain⟨e,h2,rfl,rfl⟩:=he
       exact(Kk h vm hb h2).oh
      ·cases he
 case makeMap uw r =>
  cases r with
  | some _=>simp[bM]at hc
  | none =>
   simp only[bM,Option.some.injEq]at hc
   subst hc
   simp only[aq,Option.some.injEq,Prod.mk.injEq]at he
   obtain⟨rfl,rfl⟩:=he
   exact(JX h).oh
 case makeSlice uw l c =>
  cases h1:aO l with
  | none=>simp[h1]at hc
  | some l' =>
   cases h2:aO c with
   | none=>simp[h1,h2]at hc
   | some c' =>
    simp only[h1,h2]at hc
    exact(Kv hc h (hv.get (by simp) h1) (hv.get (by simp) h2) he).oh
 case slice uw x lo hi mx =>
  cases h1:aO x with
  | none=>simp[h1]at hc
  | some x' =>
   cases h2:kJ lo with
   | none=>simp[h1,h2]at hc
   | some lo' =>
    cases h3:kJ hi with
    | none=>simp[h1,h2,h3]at hc
    | some kD =>
     cases h4:kJ mx with
     | none=>simp[h1,h2,h3,h4]at hc
     | some mx' =>
      simp only[h1,h2,h3,h4]at hc
      exact Cw hc h (hv.get (by simp) h1) (pQ h2 (fun z hz=>hv z (by simp;simp at hz;simp[hz]))) (pQ h3 (fun z hz=>hv z (by simp;simp at hz;simp[hz]))) (pQ h4 (fun z hz=>hv z (by simp;simp at hz;simp[hz]))) he
 case fieldAddr uw x f =>
  simp only[Option.bind_eq_some_iff]at hc
  obtain⟨y,h1,h2⟩:=hc
  exact(uu h2 h (hv.get (by simp) h1) he).oh
 case field uw x f =>
  simp only[Option.bind_eq_some_iff]at hc
  obtain⟨y,h1,h2⟩:=hc
  exact(uu h2 h (hv.get (by simp) h1) he).oh
 case indexAddr uw x i =>
  cases h1:aO x with
  | none=>simp[h1]at hc
  | some x' =>
   cases h2:aO i with
   | none=>simp[h1,h2]at hc
   | some i' =>
    simp only[h1,h2]at hc
    exact(AQ hc h (hv.get (by simp) h1) (hv.get (by simp) h2) he).oh
 case index uw x i =>
  cases h1:aO x with
  | none=>simp[h1]at hc
  | some x' =>
   cases h2:aO i with
   | none=>simp[h1,h2]at hc
   | some i' =>
    simp only[h1,h2]at hc
    exact(AQ hc h (hv.get (by simp) h1) (hv.get (by simp) h2) he).oh
 case lookup uw m k ok =>
  cases h1:aO m with
  | none=>simp[h1]at hc
  | some m' =>
   cases h2:aO k with
   | none=>simp[h1,h2]at hc
   | some k' =>
    simp only[h1,h2,Option.map_eq_some_iff]at hc
    obtain⟨⟨e,kt,z⟩,h4,rfl⟩:=hc
    exact(Kt h4 h (hv.get (by simp) h1) (hv.get (by simp) h2) he).oh
 case extract x i =>
  simp only[Option.map_eq_some_iff]at hc
  obtain⟨y,h1,rfl⟩:=hc
  have vx:=hv.get (by simp) h1
  simp only[aq]at he
  generalize y.ev R=tx at vx he
  cases tx<;>(try simp only[reduceCtorEq]at he)
  simp only[Option.map_eq_some_iff,Prod.mk.injEq]at he
  obtain⟨t',h2,rfl,rfl⟩:=he
  exact(JU h vx h2).oh
 case call c =>
  obtain⟨callee,args,jt⟩:=c
  cases callee
  case value cv =>
   cases cv<;>simp only[bM]at hc<;>(try (cases hc;done))
   rename_i f
   split at hc
   ·rename_i n x y xe h1
    simp only[Option.some.injEq]at hc;subst hc
    have jk:=gn (ρ:=ρ) _ _ h1 (fun x hx=>hv x (by simp[Call.operands];exact .inr (by simpa using hx)))
    simp only[aq]at he
    have hd:=Ks xe h jk he
    simpa[execOp,resolve,hρ,Deferred.ofValue,invoke]using hd
   ·cases hc
  all_goals simp only[bM]at hc<;>(try (cases hc;done))
  rename_i bi
  simp only[Option.bind_eq_some_iff]at hc
  obtain⟨as,h1,h2⟩:=hc
  have jk:=gn (ρ:=ρ) _ _ h1 (fun x hx=>hv x (by simpa[Call.operands]using hx))
  have e:args.map ρ=(args.toList.map ρ).toArray:=by apply Array.ext';simp
  have e2:jt=jt.toList.toArray:=by simp
  have:=xE (rt:=ty) (cs:=args.map fun | .const _=>true|_=>false) h2 h jk he
  simp only[execOp,resolve,pure_bind,invoke]
  rw[e,e2]
  exact this
end
section
variable {P:Program} {w0 w:World} {g:Ctx} {H:af}
theorem SR.vO {b r o q:Nat}{x x':Obj}{y y':B}(h:SR w0 g H w)(hb:H[b]?=some y)(hφ:g.φ b=some (r,o,q))(h1:g.κ r 0=.mut b)(hr:w.heap[r]?=some x)(hs:fL x=true)(fI:fL x'=true)
  (py:∀w',Le g w g w'→w'.heap[r]?=some x'→AG g w' b y') :
  Le g w g (w.putObj r x')∧SR w0 g (H.set b y') (w.putObj r x')∧Fr g H g (H.set b y'):=by
 have lx:b<H.length:=(List.getElem?_eq_some_iff.1 hb).1
 have tr:Tr w (w.putObj r x') hY (fun r'=>r'=r):=Tr.zo w r hs fI hr
 have le:Le g w g (w.putObj r x'):=Le.iM tr (fun _ _ h=>h) (fun _ _ h=>h) (fun _ _ _ h=>h) (fun _ _ hs=>hs.elim)
 refine⟨le,h.step (fun b'=>b'=b) tr le (fun _ _ hs=>hs.elim) (fun r' hm=>⟨b,by rw[hm];exact h1,rfl⟩) (fun r' j pt=>h.fresh r' j (by simpa[World.putObj]using pt)) (fun b' x hx=>by rw[List.length_set];exact h.tE b' x hx)
  (fun t e x hx=>by rw[List.length_set];exact h.jF t e x hx) (fun _ _ _=>rfl) (fun _ _ _ _=>⟨id,id⟩) (fun _ _ _ _=>rfl) (fun b' x hx=>?_),by simp,fun b' x a _ d=>⟨fN a (by rintro rfl;rw[hφ]at d;cases d),d⟩⟩
 rcases eZ lx hx with⟨rfl,rfl⟩|⟨bQ,jU⟩
 ·exact .inr (py _ le (World.putObj_heap_same (Array.getElem?_eq_some_iff.1 hr).1))
 ·exact .inl ⟨bQ,jU⟩
theorem SR.EF {x:Obj}{y:B}(h:SR w0 g H w)(YU:fL x=true)
  (py:∀g' w',Le g w g' w'→g'.κ w.heap.size 0=.mut H.length→g'.φ H.length=some (w.heap.size,0,0)→w'.heap[w.heap.size]?=some x→AG g' w' H.length y) :
  ∃g',Le g w g' (w.alloc x)∧SR w0 g' (H++[y]) (w.alloc x)∧Fr g H g' (H++[y])∧g'.φ H.length=some (w.heap.size,0,0):=by
 have xy:=Tr.alloc w x (.inl YU)
 have bQ:∀r j ow,g.κ r j=ow→ow≠.free→r≠w.heap.size:=by rintro r j ow e hn rfl;exact hn (e▸h.fresh _ j (Nat.le_refl _))
 have YV:=h.JV (b:=H.length) (Nat.le_refl _)
 have le:Le g w ((g.row w.heap.size fun _=>.mut H.length).at H.length (w.heap.size,0,0)) (w.alloc x):=Le.iM xy
  (fun b' x hx=>by simp only[Ctx.at,Ctx.row];split;rename_i e;subst e;rw[YV]at hx;simp at hx;exact hx)
  (fun r o hk=>by simp only[Ctx.row,Ctx.at];rw[if_neg (bQ r o _ hk (by simp))];exact hk) (fun _ _ _ h=>h) (fun _ _ hs=>hs.elim)
 refine⟨_,le,?_,⟨by simp,fun b x a _ d=>⟨jv a,?_⟩⟩,by simp[Ctx.at]⟩
 ·refine h.step (fun b'=>b'=H.length) xy le (fun _ _ hs=>hs.elim) (fun _ hm=>hm.elim) (fun r o hr=>?_) (fun b' x hx=>?_) (fun t e x hx=>by have:=h.jF t e x hx;simp;omega) (fun b' _ iB=>?_) (fun r j b' iB=>?_) (fun _ _ _ _=>rfl) (fun b' x hx=>?_)
  ·simp at hr
   simp only[Ctx.row,Ctx.at];rw[if_neg (by omega)];exact h.fresh r o (by omega)
  ·simp only[Ctx.at,Ctx.row]at hx
   split at hx
   ·rename_i e;subst e;simp
   ·have:=h.tE b' x hx;simp;omega
  ·simp only[Ctx.at,Ctx.row];rw[if_neg iB]
  ·constructor<;>intro e<;>simp only[Ctx.row,Ctx.at]<;>rw[if_neg (bQ r j _ e (by simp))]<;>exact e
  ·by_cases e:b'=H.length
   ·subst e
    rw[fM]at hx;cases hx
    exact .inr (py _ _ le (by simp[Ctx.row,Ctx.at]) (by simp[Ctx.at]) (World.alloc_heap_new w _))
   ·exact .inl ⟨e,dg e hx⟩
 ·have:=(List.getElem?_eq_some_iff.1 a).1
  simp only[Ctx.at,Ctx.row];rw[if_neg (by omega)];exact d
theorem SR.freeze {b:Nat}{cs:List T}(h:SR w0 g H w)(hb:H[b]?=some (.cells cs))(hφ:∃x,g.φ b=some x) :
  ∃g',Le g w g' w∧SR w0 g' (H.set b .dead) w∧Fr g H g' (H.set b .dead)∧∀t v,VR g w t v→VR g' w (D5 b cs t) v:=by
 let g':Ctx:={ g with κ:=fun r o=>if g.κ r o=.mut b then .nf else g.κ r o }
 have le:Le g w g' w:=⟨fun _ _ h=>h,fun r o e=>by simp only[g'];rw[e];simp,fun _ _ _ h=>h,fun _ _ _ _ h=>h,rfl⟩
 have lx:b<H.length:=(List.getElem?_eq_some_iff.1 hb).1
 have tr:Tr w w (fun _ _=>False) (fun _=>False):=⟨Nat.le_refl _,fun _ _ _ _=>rfl,fun _ _ _=>rfl,fun _ _ _ h=>h,fun _ _ _ _ h=>h,fun _ _ _ _=>rfl,fun r j hr=>dC hr,rfl,rfl⟩
 have sr:SR w0 g' (H.set b .dead) w:=by
  refine h.step (fun b'=>b'=b) tr le (fun _ _ h=>h.elim) (fun _ h=>h.elim) (fun r o hr=>?_) (fun b' x hx=>?_) (fun t e x hx=>?_) (fun _ _ _=>rfl) (fun r j b' bQ=>⟨fun e=>?_,fun e=>?_⟩) (fun _ _ _ _=>rfl) (fun b' x hx=>?_)
  ·simp only[g'];rw[h.fresh r o hr];simp
  ·rw[List.length_set];exact h.tE b' x hx
  ·rw[List.length_set];exact h.jF t e x hx
  ·simp only[g'];rw[e,if_neg (by simpa using bQ)]
  ·simp only[g'];rw[e,if_neg (by simp)]
  ·rcases eZ lx hx with⟨rfl,rfl⟩|⟨bQ,jU⟩
   ·exact .inr trivial
   ·exact .inl ⟨bQ,jU⟩
 have one:∀t v,VR g w t v→VR g' w (zh b cs t) v:=by
  intro t v hv
  cases t with
  | aA b' off len n =>
   simp only[zh]
   split
   ·rename_i hc
    obtain⟨rfl,hle⟩:=hc
    cases hv with
    | @aA _ _ _ _ r o q cap hp hc hq =>
     obtain⟨c1,c2,c3⟩:=h.eG _ _ hb r o q hp
     have hlen:(tD cs off len n).length=len:=by simp[tD]
     have YX:∀(i j:Nat) (c:List T) (t:T),(tD cs off len n)[i]?=some c→c[j]?=some t→j<n∧i<len∧cs[off+i*n+j]?=some t:=by
      intro i j c t hi hj
      have l3:i<len:=by have:=(List.getElem?_eq_some_iff.1 hi).1;rw[hlen]at this;exact this
      simp only[tD,List.getElem?_map,List.getElem?_range l3,Option.map_some,Option.some.injEq]at hi
      subst hi
      rw[List.getElem?_take]at hj
      split at hj
      ·rename_i zw
       rw[List.getElem?_drop]at hj
       exact⟨zw,l3,hj⟩
      ·cases hj
     have key:∀(i j:Nat) (c:List T) (t:T),(tD cs off len n)[i]?=some c→c[j]?=some t→t.one=true∧∃v,w.cell? ⟨r,o+off+i*n+j,none⟩=some v∧VR g w t v∧g.κ r (o+off+i*n+j)=.mut b':=by
      intro i j c t hi hj
      obtain⟨h1,h2,h3⟩:=YX i j c t hi hj
      obtain⟨k1,v,k2,k3⟩:=c3 _ _ h3
      have iP:off+i*n+j<cs.length:=(List.getElem?_eq_some_iff.1 h3).1
      refine⟨k1,v,?_,k3,?_⟩
      ·rw[show o+off+i*n+j=o+(off+i*n+j) by omega];exact k2
      ·exact(c2 (o+off+i*n+j) (by omega) (by omega)).1
     have:=VR.sl (g:=g') (w:=w) (k:=.arg) (es:=tD cs off len n) (r:=r) (o:=o+off) (cap:=cap) (n:=n) (fun i j=>(w.cell? ⟨r,o+off+i*n+j,none⟩).getD undef) trivial (by rw[hlen];exact hc)
      (fun c gB=>by
       obtain⟨i,hi,rfl⟩:=List.mem_map.1 gB
       have hi:=List.mem_range.1 hi
       have:i*n+n≤len*n:=by rw[←Nat.succ_mul];exact Nat.mul_le_mul_right n hi
       rw[List.length_take,List.length_drop];omega)
      (fun i j c t hi hj=>by
       obtain⟨k1,v,k2,_,k4⟩:=key i j c t hi hj
       refine⟨k1,?_,by rw[k2];rfl⟩
       simp only[g'];rw[if_pos k4])
      (fun i j c t hi hj=>by
       obtain⟨_,v,k2,k3,_⟩:=key i j c t hi hj
       rw[k2];exact k3.mono le)
     rw[hlen]at this
     exact this
   ·exact hv.mono le
  | _=>exact hv.mono le
 refine⟨g',le,sr,⟨by simp,fun b' y a _ d=>⟨fN a (by rintro rfl;obtain⟨x,hx⟩:=hφ;rw[hx]at d;cases d),d⟩⟩,fun t v hv=>?_⟩
 cases t with
 | bJ vs =>
  cases hv with
  | bJ hl h2 =>
   refine .bJ (by simpa using hl) fun i t v hi Kw=>?_
   rw[List.getElem?_map,Option.map_eq_some_iff]at hi
   obtain⟨t',Kx,rfl⟩:=hi
   exact one _ _ (h2 i t' v Kx Kw)
 | _=>exact one _ _ hv
end
def dL (P:Program)(f:FuncId):Bool :=
 match P.funcs[f]? with
 | some fn=>fn.name != "runtime.NumGoroutine"&&fn.body.isSome
 | none=>false
def bV (P:Program)(mu:Bool):Op→Option MH
 | .call { callee:=.value (.func f),args,.. }=>if dL P f then(gm args.toList).map (.call f)else match AP P f,gm args.toList with
  | some n,some [x,y]=>some (.b (.RW n x y))
  | _,_=>none
 | .call { callee:=.value (.tmp t),args,.. }=>(gm args.toList).map (.bF (.r t))
 | op=>(bM P mu op).map .b
def ux (ops:Array Oper):Option (Nat×Bool)→Option Gd
 | none=>some none
 | some (j,b)=>match (ops[j]?).bind (·.dst)with
  | some d=>some (some (d,b))
  | none=>none
def eu:X→List Nat
 | .r t=>[t]
 | .c _=>[]
def pS:Option X→List Nat
 | some x=>eu x
 | none=>[]
def EG:Bo→List Nat
 | .au x | .un _ x | .hJ _ x | .B5 x | .cvb x | .len _ x | .box x | .ld _ _ x | .gW _ x | .SP _ _ _ x | .ext _ x | .m9 x | .cap x | .N7 x | .qU x | .N8 x | .RX _ _ x=>eu x
 | .bin _ x y | .om _ _ x y | .beq _ x y | .eqs _ _ x y | .st _ x y | .ff _ x y | .N6 _ _ x y | .SQ x y | .XG _ _ _ x y | .oq _ _ _ x y | .del _ x y | .app _ _ _ x y | .YE _ _ _ x y | .mn x y | .mx x y | .B6 _ x y | .RW _ x y | .SU _ _ _ x y=>eu x++eu y
 | .pick x y z | .AA _ x y z=>eu x++eu y++eu z
 | .build _ ps=>ps.flatMap fun p=>eu p.2.2
 | .nE _ _ ps | .RY _ _ ps=>ps.flatMap fun p=>eu p.2
 | .SS x lo hi=>eu x++pS lo++pS hi
 | .fH _ x lo hi mx=>eu x++pS lo++pS hi++pS mx
 | .JB _ l=>l.flatMap eu
 | .alloc _ | .Az=>[]
def AV:MH→List Nat
 | .b b=>EG b
 | .call _ as=>as.flatMap eu
 | .bF f as=>eu f++as.flatMap eu
def nw:Gd→List Nat
 | some (t,_)=>[t]
 | none=>[]
def fz (l:List Operand):List Nat:=l.filterMap fun | .tmp t=>some t|_=>none
def tmpsOf (o:Oper)(op:MH)(g:Gd):List Nat:=fz o.op.operands.toList++(nw g++AV op)
def fZ (P:Program)(n:Nat)(ops:Array Oper)(mu:Bool)(o:Oper)(B7:List Rd):Option O :=
 match bV P mu o.op,ux ops o.guard with
 | some op,some g=>if (tmpsOf o op g).all (·<n)&&(o.dst.all (·<n))then some ⟨o.dst,op,g,B7⟩else none
 | _,_=>none
def gC (P:Program)(n:Nat)(ops:Array Oper)(mu:Nat→Bool):List Nat→Option (List O)
 | []=>some []
 | i :: is=>match ops[i]? with
  | some o=>match fZ P n ops (mu i) o [],gC P n ops mu is with
   | some o,some l=>some (o :: l)
   | _,_=>none
  | none=>none
def cE (o:Oper):List Nat:=(o.after.toList.filter fun e=>Region.binds .any e).map (·.on)
def kM (acc:List Nat)(o:Oper):Nat:=(cE o).foldl (fun s j=>s ||| 2^j ||| acc.getD j 0) 0
def fq:List Oper→List Nat→List Nat
 | [],acc=>acc
 | o :: l,acc=>fq l (acc++[kM acc o])
inductive Kl where|pure|read|make|OJ
 deriving DecidableEq
def rU:Bo→Kl
 | .au _ | .pick _ _ _ | .bin _ _ _ | .beq _ _ _ | .eqs _ _ _ _ | .un _ _ | .hJ _ _ | .build _ _ | .nE _ _ _ | .gW _ _ | .SP _ _ _ _ | .ff _ _ _ | .N6 _ _ _ _ | .SQ _ _ | .XG _ _ _ _ _ | .SS _ _ _ | .fH _ _ _ _ _
 | .JB _ _ | .ext _ _ | .mn _ _ | .mx _ _ | .m9 _=>.pure
 | .om _ c _ _=>if c=.slice then .OJ else .pure
 | .ld _ _ _ | .oq _ _ _ _ _ | .len _ _ | .B5 _=>.read
 | .alloc _ | .Az=>.make
 | _=>.OJ
def Jm (o:O):Kl:=match o.op with
 | .b b=>match o.d with|some _=>rU b|none=>.OJ
 | _=>.OJ
structure It where
 i:Nat
 o:O
 early:Bool
 ts:List Nat
def jG (b:Nat):List It→List Rd
 | []=>[]
 | y :: l=>match y.early,y.o.d,y.o.op with
  | true,some d,.b op=>if rU op=.read∧b.testBit y.i=false then⟨d,op,y.o.g⟩ :: jG b l else jG b l
  | _,_,_=>jG b l
def zx:Op→Bool
 | .alloc _ | .makeMap _ none=>true
 | _=>false
def EH (b:Nat)(before:List It)(x:It)(oper:Oper):Bool :=
 ((cE oper).all fun j=>decide (j<x.i)&&before.any (·.i==j)) &&
 (before.all fun y=>y.early||b.testBit y.i) &&
 (before.all fun y=>y.i != x.i) &&
 (match x.o.d with
  | some d=>(before.all fun y=>y.o.d != some d&&(!y.ts.contains d||(!x.early&&b.testBit y.i)))&&!x.ts.contains d
  | none=>true) &&
 (before.all fun y=>match y.o.d with
  | some d=>!x.ts.contains d||b.testBit y.i
  | none=>true) &&
 (!x.early||(Jm x.o != .OJ&&(Jm x.o != .make||zx oper.op)))
def zy (P:Program)(n:Nat)(ops:Array Oper)(mu:Nat→Bool)(b:Nat)(before:List It)(x:Nat×Bool):Option It :=
 match ops[x.1]? with
 | some o=>match fZ P n ops (mu x.1) o (if x.2 then []else jG b before)with
  | some o'=>let y:It:=⟨x.1,o',x.2,tmpsOf o o'.op o'.g⟩
   if EH b before y o then some y else none
  | none=>none
 | none=>none
def ew (P:Program)(n:Nat)(ops:Array Oper)(mu:Nat→Bool)(bs:List Nat)(before:List It):List (Nat×Bool)→Option (List It)
 | []=>if (List.range ops.size).all fun i=>before.any (·.i==i)then some []else none
 | x :: l=>match zy P n ops mu (bs.getD x.1 0) before x with
  | some y=>(ew P n ops mu bs (before++[y]) l).map (y :: ·)
  | none=>none
structure An where
 mu:List (Nat×Nat)
 ord:List (Nat×List (Nat×Bool))
def bG (P:Program)(n:Nat)(an:An)(top:Bool):Code→Option C
 | .skip=>some .skip
 | .region id ops false=>(gC P n ops (fun i=>an.mu.contains (id,i)) (List.range ops.size)).map .ops
 | .region id ops true=>match an.ord.find? (·.1==id)with
  | some (_,ord)=>(ew P n ops (fun i=>an.mu.contains (id,i)) (fq ops.toList []) [] ord).map fun kO=>.ops (kO.map (·.o))
  | none=>none
 | .seq a b=>match bG P n an top a,bG P n an top b with
  | some a,some b=>some (.seq a b)
  | _,_=>none
 | .cond c a b=>match aO c,bG P n an top a,bG P n an top b with
  | some x,some a,some b=>if (match c with | .tmp t=>decide (t<n)|_=>true)then some (.cond x a b)else none
  | _,_,_=>none
 | .block id a=>(bG P n an top a).map (.block id)
 | .loop a=>(bG P n an top a).map .loop
 | .exit id=>some (.exit id)
 | .ret=>some .ret
 | .rangeFunc g ps b9 body=>match aO g,bG P n an false b9,bG P n an false body with
  | some x,some a,some b=>if top&&(eu x).all (·<n)&&ps.toList.all (·<n)then some (.cP n x ps.toList a b)else none
  | _,_,_=>none
 | _=>none
def oK (P:Program):List ResultVar→Option (List Rs)
 | []=>some []
 | .tmp t :: l=>(oK P l).map (.t t :: ·)
 | .cell a t :: l=>match P.underlying t,P.info? t with
  | some d,some i=>(oK P l).map (.cl a (if eJ d then i.size else 1) (eJ d) :: ·)
  | _,_=>none
def Cy (n:Nat):Rs→Bool
 | .t r | .cl r _ _=>r<n
def ak (P:Program)(an:An)(f:FuncId):Option Fn :=
 match P.funcs[f]? with
 | some fn=>match fn.body,oK P fn.results.toList with
  | some c,some res=>match bG P fn.ntmps an true c with
   | some c=>if dL P f&&decide (fn.params.size+fn.nfree≤fn.ntmps)&&res.all (Cy fn.ntmps)then some ⟨fn.ntmps,fn.params.size+fn.nfree,res,c⟩else none
   | none=>none
  | _,_=>none
 | none=>none
section
variable {R R':aw} {H:af}
theorem cQ {x:X}(h:∀t∈eu x,R t=R' t):x.ev R=x.ev R':=by
 cases x with
 | r t=>exact h t (by simp[eu])
 | c v=>rfl
theorem mH {x:Option X}{d:Nat}(h:∀t∈pS x,R t=R' t):fX R d x=fX R' d x:=by
 cases x with
 | none=>rfl
 | some x=>simp only[fX];rw[cQ h]
theorem oL:∀(ps:List (Nat×Nat×X)),(∀t∈ps.flatMap (fun p=>eu p.2.2),R t=R' t)→fJ R ps=fJ R' ps
 | [],_=>rfl
 | (off,n,x) :: ps,h=>by
  simp only[fJ]
  rw[cQ (x:=x) (R':=R') (fun t ht=>h t (by simp[ht])),oL ps (fun t ht=>h t (by rw[List.flatMap_cons];exact List.mem_append_right _ ht))]
theorem qv (n:Nat):∀(ps:List (Nat×X)) (es:List (List T)),(∀t∈ps.flatMap (fun p=>eu p.2),R t=R' t)→jR n es R ps=jR n es R' ps
 | [],_,_=>rfl
 | (i,x) :: ps,es,h=>by
  simp only[jR]
  rw[cQ (x:=x) (R':=R') (fun t ht=>h t (by simp[ht]))]
  split
  ·split
   ·exact qv n ps _ (fun t ht=>h t (by rw[List.flatMap_cons];exact List.mem_append_right _ ht))
   ·rfl
  ·rfl
theorem qw (n:Nat):∀(ps:List (Nat×X)) (es:List (List T)),(∀t∈ps.flatMap (fun p=>eu p.2),R t=R' t)→jS n es R ps=jS n es R' ps
 | [],_,_=>rfl
 | (i,x) :: ps,es,h=>by
  simp only[jS]
  rw[cQ (x:=x) (R':=R') (fun t ht=>h t (by simp[ht]))]
  split
  ·split
   ·exact qw n ps _ (fun t ht=>h t (by rw[List.flatMap_cons];exact List.mem_append_right _ ht))
   ·rfl
  ·rfl
theorem rV:∀(l:List X),(∀t∈l.flatMap eu,R t=R' t)→l.map (X.ev R)=l.map (X.ev R')
 | [],_=>rfl
 | x :: l,h=>by
  simp only[List.map_cons]
  rw[cQ (x:=x) (R':=R') (fun t ht=>h t (by simp[ht])),rV l (fun t ht=>h t (by rw[List.flatMap_cons];exact List.mem_append_right _ ht))]
theorem rW {b:Bo}(h:∀t∈EG b,R t=R' t):aq R H b=aq R' H b:=by
 cases b<;>simp only[EG,List.mem_append]at h
 case build z ps=>simp only[aq];rw[oL ps h]
 case nE n z ps=>simp only[aq];rw[qv _ ps _ h]
 case RY n z ps=>simp only[aq];rw[qw _ ps _ h]
 case JB f l=>simp only[aq,MI];rw[rV l h]
 case alloc=>rfl
 case Az=>rfl
 case SS x lo hi =>
  have h1:=cQ (x:=x) (R:=R) (R':=R') (fun t ht=>h t (.inl (.inl ht)))
  have h2:=fun d=>mH (x:=lo) (d:=d) (R:=R) (R':=R') (fun t ht=>h t (.inl (.inr ht)))
  have h3:=fun d=>mH (x:=hi) (d:=d) (R:=R) (R':=R') (fun t ht=>h t (.inr ht))
  simp only[aq,h1,h2,h3]
 case fH n x lo hi mx =>
  have hm:∀m,mx=some m→m.ev R=m.ev R':=fun m e=>cQ (fun t ht=>h t (.inr (by subst e;exact ht)))
  have h1:=cQ (x:=x) (R:=R) (R':=R') (fun t ht=>h t (.inl (.inl (.inl ht))))
  have h2:=fun d=>mH (x:=lo) (d:=d) (R:=R) (R':=R') (fun t ht=>h t (.inl (.inl (.inr ht))))
  have h3:=fun d=>mH (x:=hi) (d:=d) (R:=R) (R':=R') (fun t ht=>h t (.inl (.inr ht)))
  simp only[aq,h1,h2,h3]
  cases mx with
  | none =>
   cases x.ev R' with
   | sl k es=>dsimp only;cases fX R' 0 lo with
    | none=>rfl
    | some l=>cases fX R' es.length hi<;>rfl
   | aA b off len n'=>rfl
   | _=>rfl
  | some m =>
   cases x.ev R' with
   | sl k es=>dsimp only;cases fX R' 0 lo with
    | none=>rfl
    | some l=>cases fX R' es.length hi with
     | none=>rfl
     | some h=>dsimp only;rw[hm m rfl]
   | aA b off len n'=>rfl
   | _=>rfl
 all_goals first
  | (simp only[aq,cQ h];done)
  | (rename_i x;simp only[aq];rw[cQ (x:=x) (R':=R') h])
  | (rename_i x y;simp only[aq];rw[cQ (x:=x) (R':=R') (fun t ht=>h t (.inl ht)),cQ (x:=y) (R':=R') (fun t ht=>h t (.inr ht))])
  | (rename_i x y z;simp only[aq];rw[cQ (x:=x) (R':=R') (fun t ht=>h t (.inl (.inl ht))),cQ (x:=y) (R':=R') (fun t ht=>h t (.inl (.inr ht))),cQ (x:=z) (R':=R') (fun t ht=>h t (.inr ht))])
theorem l8 {g:Gd}(h:∀t∈nw g,R t=R' t):bU R g=bU R' g:=by
 cases g with
 | none=>rfl
 | some p=>obtain⟨t,b⟩:=p;simp only[bU];rw[h t (by simp[nw])]
theorem xF {b:Bo}(hk:rU b=.pure)(H2:af):aq R H2 b=(aq R H b).map fun p=>(p.1,H2):=by
 cases b<;>simp only[rU]at hk<;>(try (cases hk;done))<;>simp only[aq]
 case fH n x lo hi mx =>
  cases x.ev R with
  | sl k es =>
   dsimp only
   cases fX R 0 lo with
   | none=>rfl
   | some l=>cases fX R es.length hi with
    | none=>rfl
    | some h=>cases mx with
     | none=>dsimp only;split<;>rfl
     | some m=>dsimp only;cases cw (m.ev R)with
      | none=>rfl
      | some m=>dsimp only;split<;>rfl
  | aA b off len n' =>
   dsimp only
   cases fX R 0 lo with
   | none=>rfl
   | some l=>cases fX R len hi with
    | none=>rfl
    | some h=>cases mx with
     | none=>dsimp only;split<;>rfl
     | some m=>rfl
  | eH b off len n' c =>
   dsimp only
   cases fX R 0 lo with
   | none=>rfl
   | some l=>cases fX R len hi with
    | none=>rfl
    | some h=>cases mx with
     | none=>dsimp only;split<;>rfl
     | some m=>rfl
  | _=>rfl
 all_goals (try rfl)
 all_goals (try (simp[Option.map_map,Function.comp_def];done))
 all_goals (try (simp[Option.map_map,Option.map_bind,Function.comp_def];done))
 all_goals (repeat' split)
 all_goals (try (simp_all [Option.map_map,Function.comp_def];done))
theorem uy {b:Bo}{v:T}{H':af}(hk:rU b=.pure)(h:aq R H b=some (v,H')):H'=H∧∀H2,aq R H2 b=some (v,H2):=by
 constructor
 ·have h1:=xF (R:=R) (H:=H) hk H
  rw[h]at h1;simp at h1;exact h1
 ·intro H2;rw[xF (H:=H) hk H2,h];rfl
theorem mI {l:af}{b:Nat}{x:B}(h:H[b]?=some x):(H++l)[b]?=some x:=by
 rw[List.getElem?_append_left (List.getElem?_eq_some_iff.1 h).1];exact h
theorem Ky {n:Nat}{t:T}{cs:List T}(l:af)(h:po H n t=some cs):po (H++l) n t=some cs:=by
 unfold po at *
 cases t<;>simp only[]at h ⊢<;>try (first|exact h|cases h)
 rename_i b off
 cases hb:H[b]? with
 | none=>simp[hb]at h
 | some x=>rw[hb]at h;rw[mI hb];exact h
theorem Cz {t:T}{es:List (T×T)}(l:af)(h:hO H t=some es):hO (H++l) t=some es:=by
 unfold hO at *
 cases t<;>simp only[]at h ⊢<;>try (first|exact h|cases h)
 rename_i b
 cases hb:H[b]? with
 | none=>simp[hb]at h
 | some x=>rw[hb]at h;rw[mI hb];exact h
theorem EI {t:T}{k:Lc}{n:Nat}(l:af)(h:jE H k t=some n):jE (H++l) k t=some n:=by
 unfold jE at *
 cases k<;>cases t<;>simp only[]at h ⊢<;>try (first|exact h|cases h)
 rename_i b
 cases hb:H[b]? with
 | none=>simp[hb]at h
 | some x=>rw[hb]at h;rw[mI hb];exact h
theorem xG {t:T}{n:Nat}{es:List (List T)}(l:af)(h:bq H n t=some es):bq (H++l) n t=some es:=by
 unfold bq at *
 cases t<;>simp only[]at h ⊢<;>try (first|exact h|cases h)
 rename_i b off len n'
 cases hb:H[b]? with
 | none=>simp[hb]at h
 | some x=>rw[hb]at h;rw[mI hb];exact h
theorem uz {b:Bo}{v:T}{H':af}(hk:rU b=.read)(h:aq R H b=some (v,H')):H'=H∧∀l,aq R (H++l) b=some (v,H++l):=by
 cases b<;>simp only[rU]at hk<;>(try (cases hk;done))<;>simp only[aq]at h ⊢
 case om=>split at hk<;>cases hk
 case B5 x =>
  cases he:bq H 1 (x.ev R)with
  | none=>simp[he]at h
  | some es =>
   rw[he]at h
   refine⟨?_,fun l=>?_⟩
   ·dsimp only at h;split at h
    ·cases h
    ·simp only[Option.map_eq_some_iff,Prod.mk.injEq]at h;obtain⟨_,_,_,e⟩:=h;exact e.symm
   ·rw[xG l he]
    dsimp only at h ⊢;split at h
    ·cases h
    ·simp only[Option.map_eq_some_iff,Prod.mk.injEq]at h ⊢
     obtain⟨a,h1,h2,_⟩:=h
     rename_i bQ
     exact⟨a,h1,h2,trivial⟩
 case len k x =>
  simp only[Option.map_eq_some_iff,Prod.mk.injEq]at h ⊢
  obtain⟨a,h1,h2,h3⟩:=h
  exact⟨h3.symm,fun l=>⟨a,EI l h1,h2,trivial⟩⟩
 case ld n ag x =>
  cases he:po H n (x.ev R)with
  | none=>simp[he]at h
  | some cs =>
   simp only[he,Option.map_eq_some_iff,Prod.mk.injEq]at h
   obtain⟨a,h1,h2,h3⟩:=h
   exact⟨h3.symm,fun l=>by simp[Ky l he,h1,h2]⟩
 case oq kt z ok m k =>
  split at h
  ·rename_i hh
   simp only[hh,if_true]
   cases he:hO H (m.ev R)with
   | none=>simp[he]at h
   | some es =>
    simp only[he]at h
    simp only[Cz _ he]
    split at h
    ·split at h
     ·cases h;exact⟨rfl,fun l=>rfl⟩
     ·cases h
    ·cases h;exact⟨rfl,fun l=>rfl⟩
    ·cases h
  ·cases h
end
theorem xH:∀(l:List Oper) (acc:List Nat),∃rest,fq l acc=acc++rest∧rest.length=l.length
 | [],acc=>⟨[],by simp[fq],rfl⟩
 | o :: l,acc=>by
  obtain⟨r,h,hl⟩:=xH l (acc++[kM acc o])
  exact⟨kM acc o :: r,by simp[fq,h],by simp[hl]⟩
theorem xI:∀(l:List Oper) (acc:List Nat) (k:Nat) (o:Oper),l[k]?=some o→(fq l acc)[acc.length+k]?=some (kM ((fq l acc).take (acc.length+k)) o)
 | [],_,_,_,h=>by simp at h
 | x :: l,acc,0,o,h=>by
  simp at h;subst h
  obtain⟨r,h,_⟩:=xH l (acc++[kM acc x])
  simp[fq,h]
 | x :: l,acc,k+1,o,h=>by
  have:=xI l (acc++[kM acc x]) k o (by simpa using h)
  simp only[List.length_append,List.length_singleton]at this
  simp only[fq]
  rw[show acc.length+(k+1)=acc.length+1+k by omega]
  exact this
theorem uA (acc:List Nat)(t:Nat):∀(l:List Nat) (s:Nat),(l.foldl (fun s j=>s ||| 2^j ||| acc.getD j 0) s).testBit t=true→s.testBit t=true∨∃j∈l,t=j∨(acc.getD j 0).testBit t=true
 | [],s,h=>.inl h
 | x :: l,s,h=>by
  rcases uA acc t l _ h with h|⟨j,hj,h⟩
  ·simp only[Nat.testBit_or,Bool.or_eq_true,Nat.testBit_two_pow,decide_eq_true_eq]at h
   rcases h with(h|h)|h
   ·exact .inl h
   ·exact .inr ⟨x,by simp,.inl h.symm⟩
   ·exact .inr ⟨x,by simp,.inr h⟩
  ·exact .inr ⟨j,by simp[hj],h⟩
theorem xJ {acc:List Nat}{o:Oper}{t:Nat}(h:(kM acc o).testBit t=true):∃j∈cE o,t=j∨(acc.getD j 0).testBit t=true:=by
 rcases uA acc t _ _ h with h|h
 ·simp at h
 ·exact h
theorem xK {ops:Array Oper}{D:Nat→Prop}(hD:∀i o,ops[i]?=some o→D i→∀j∈cE o,j<i∧D j) :
  ∀(i:Nat) (o:Oper) (t:Nat),ops[i]?=some o→(∀j∈cE o,j<i∧D j)→((fq ops.toList []).getD i 0).testBit t=true→D t:=by
 intro i
 induction i using Nat.strongRecOn with
 | _ i ih =>
  intro o t ho hp hb
  have h1:=xI ops.toList [] i o (by simpa using ho)
  simp only[List.length_nil,Nat.zero_add]at h1
  rw[List.getD_eq_getElem?_getD,h1,Option.getD_some]at hb
  obtain⟨j,hj,h⟩:=xJ hb
  obtain⟨al,hDj⟩:=hp j hj
  rcases h with rfl|h
  ·exact hDj
  ·rw[List.getD_eq_getElem?_getD,List.getElem?_take,if_pos al,←List.getD_eq_getElem?_getD]at h
   have l3:i<ops.size:=(Array.getElem?_eq_some_iff.1 ho).1
   have hoj:ops[j]?=some ops[j]:=Array.getElem?_eq_getElem (Nat.lt_trans al l3)
   exact ih j al ops[j] t hoj (fun k hk=>hD j _ hoj hDj k hk) h
def Fw (r:Option Nat):Fence:={ fn:=fun _=>True,depth:=none,alive:=false,round:=r }
theorem xL {r r':Option Nat}{n:Nat}{P:Program}{f:FuncId}{args:Array Value}{w:World}{K:Ending→World→Prop}(h:CallsIn (Fw r) n P f args w K):CallsIn (Fw r') n P f args w K:=h
section
variable {P:Program} {w0 w:World} {g:Ctx} {H H':af} {R:aw} {a:Act} {n:Nat} {ops:Array Oper}
theorem bC {mu:Bool}{o:Oper}{st:List Rd}{y:O}(h:fZ P n ops mu o st=some y):∃op gd,bV P mu o.op=some op∧ux ops o.guard=some gd∧y=⟨o.dst,op,gd,st⟩ ∧
  (∀t∈tmpsOf o op gd,t<n)∧∀d,o.dst=some d→d<n:=by
 unfold fZ at h
 cases h1:bV P mu o.op with
 | none=>simp[h1]at h
 | some op=>cases h2:ux ops o.guard with
  | none=>simp[h1,h2]at h
  | some gd =>
   simp only[h1,h2]at h
   split at h
   ·rename_i hh
    simp only[Bool.and_eq_true,List.all_eq_true,decide_eq_true_eq]at hh
    exact⟨op,gd,rfl,rfl,(Option.some.inj h).symm,hh.1,fun d hd=>by have:=hh.2;simp[hd]at this;exact this⟩
   ·cases h
def ir (g:Ctx)(w:World)(R:aw)(a:Act)(ts:List Nat):Prop:=∀t∈ts,VR g w (R t) (a.tmps.getD t undef)
theorem ir.sub {ts Oc:List Nat}(h:ir g w R a ts)(hs:∀t∈Oc,t∈ts):ir g w R a Oc:=fun t ht=>h t (hs t ht)
theorem uB {l:List Operand}(h:ir g w R a (fz l)):RV g w R a.eval l:=by
 intro x hx y hy
 cases x with
 | tmp t=>simp only[aO,Option.some.injEq]at hy;subst hy;exact h t (by simp only[fz,List.mem_filterMap];exact⟨_,hx,rfl⟩)
 | const v =>
  simp only[aO,Option.map_eq_some_iff]at hy
  obtain⟨t,h1,rfl⟩:=hy
  exact mF h1
 | «global» x=>simp[aO]at hy
 | func f=>simp only[aO,Option.some.injEq]at hy;subst hy;exact .fn rfl (by simp)
theorem pU {o:Oper}{gd:Gd}(hg:ux ops o.guard=some gd)(hn:a.tmps.size=n)(hd:∀t∈nw gd,t<n)(h:ir g w R a (nw gd)):Region.wanted o (yielded ops a.tmps)=bU R gd:=by
 unfold Region.wanted
 cases ho:o.guard with
 | none=>rw[ho]at hg;simp only[ux,Option.some.injEq]at hg;subst hg;rfl
 | some p =>
  obtain⟨j,b⟩:=p
  rw[ho]at hg
  simp only[ux]at hg
  cases iu:(ops[j]?).bind (·.dst)with
  | none=>simp[iu]at hg
  | some d =>
   simp only[iu,Option.some.injEq]at hg;subst hg
   have hv:=h d (by simp[nw])
   have al:d<a.tmps.size:=by rw[hn];exact hd d (by simp[nw])
   simp only[yielded,iu,Option.bind_some,bU]
   rw[Array.getD_eq_getD_getElem?,Array.getElem?_eq_getElem al,Option.getD_some]at hv
   rw[Array.getElem?_eq_getElem al]
   generalize R d=t at *
   generalize a.tmps[d]=v at *
   cases hv<;>simp
theorem iE {mu:Bool}{o:Op}{op:MH}(h:bV P mu o=some op):∀c,o≠.defer c:=by
 rintro c rfl;simp[bV,bM]at h
theorem jX {mu:Bool}{o:Op}{b:Bo}(h:bV P mu o=some (.b b)):bM P mu o=some b:=by
 unfold bV at h
 split at h
 ·split at h
  ·simp only[Option.map_eq_some_iff]at h;obtain⟨_,_,h⟩:=h;cases h
  ·split at h
   ·rename_i h1 h2
    cases h
    simp only[bM,h1,h2]
   ·cases h
 ·simp only[Option.map_eq_some_iff]at h;obtain⟨_,_,h⟩:=h;cases h
 ·simp only[Option.map_eq_some_iff]at h;obtain⟨x,h1,h⟩:=h;cases h;exact h1
theorem EJ {r:Option Nat}{mu:Bool}{o:Oper}{b:Bo}{t:T}(hc:bV P mu o.op=some (.b b))(h:SR w0 g H w)(hr:ir g w R a (fz o.op.operands.toList))(he:aq R H b=some (t,H')) :
  ∃v w' g',(∀(K:Act→World→Prop) (Q:Exit→Act→World→Prop),K (a.put o.dst v) w'→o.wpIn (Fw r) 0 P a w K Q)∧Le g w g' w'∧SR w0 g' H' w'∧VR g' w' t v∧Fr g H g' H':=by
 obtain⟨nx,v,w',g',h1,h2,h3⟩:=OI (fun _=>rfl) (jX hc) h (uB hr) he
 refine⟨v,w',g',fun K Q hk=>⟨fun _ _=>trivial,?_⟩,h3⟩
 rw[Oper.semAt_eq _ _ _ (iE hc),h1]
 rcases h2 with rfl|⟨rfl,rfl⟩
 ·exact hk
 ·exact hk
theorem zz {mu:Bool}{o:Op}{x:X}(h:bM P mu o=some (.qU x)):∃it,o=.next it false∧aO it=some x:=by
 cases o
 case next it str =>
  cases str<;>simp only[bM]at h<;>(try (cases h;done))
  simp only[Option.map_eq_some_iff,Bo.qU.injEq]at h
  obtain⟨y,h1,rfl⟩:=h
  exact⟨it,rfl,h1⟩
 case range ty m =>
  simp only[bM]at h
  split at h
  ·simp only[Option.map_eq_some_iff]at h;obtain⟨_,_,h⟩:=h;cases h
  ·cases h
 case makeMap ty r =>
  cases r<;>simp only[bM]at h<;>cases h
 case makeFunc fn first lP =>
  cases fn<;>simp only[bM]at h<;>(try (cases h;done))
  split at h
  ·simp only[Option.map_eq_some_iff]at h;obtain⟨_,_,h⟩:=h;cases h
  ·cases h
 case call c =>
  obtain⟨callee,args,jt⟩:=c
  cases callee
  case value x =>
   cases x<;>simp only[bM]at h<;>(try (cases h;done))
   split at h<;>cases h
  case builtin b =>
   simp only[bM,Option.bind_eq_some_iff]at h
   obtain⟨l,_,h⟩:=h
   unfold jW at h
   split at h
   ·have hz:∀tl l b',xC P tl l=some b'→b'≠.qU x:=by
     rintro tl l b' hb rfl
     simp only[xC]at hb
     (repeat' split at hb)<;>first|(cases hb;done)|(simp at hb;done)
    split at h
    ·rename_i b' hb;exact absurd (Option.some.inj h) (hz _ _ _ hb)
    ·simp only[mG]at h
     (repeat' split at h)<;>first|(cases h;done)|(simp at h;done)
   all_goals ((repeat' split at h)<;>first|(cases h;done)|(simp at h;done))
  all_goals (simp only[bM]at h;cases h)
 all_goals simp only[bM]at h
 all_goals first|(cases h;done)|(simp only[Option.map_eq_some_iff]at h;obtain⟨_,_,h⟩:=h;cases h;done)|skip
 all_goals (try simp only[Option.bind_eq_some_iff]at h)
 all_goals (try (obtain⟨_,_,h⟩:=h))
 all_goals (try simp only[EB,ur,uq,nL,zs,pK,pL,Cu,Cv,zt]at h)
 all_goals first|((repeat' split at h)<;>first|(cases h;done)|(simp at h;done))|skip
theorem EK {r:Option Nat}{mu:Bool}{o:Oper}{x:X}{b bi:Nat}{es:List (T×T)}{ix:List Nat}{cur:Option Nat}(hc:bV P mu o.op=some (.b (.qU x)))(h:SR w0 g H w)(hr:ir g w R a (fz o.op.operands.toList))
  (hx:x.ev R=.ptr bi 0) (hb:H[b]?=some (.cY es ix bi cur)) :
  ∃t H' v w' g',ov H b bi es ix t H'∧(∀(K:Act→World→Prop) (Q:Exit→Act→World→Prop),K (a.put o.dst v) w'→o.wpIn (Fw r) 0 P a w K Q)∧Le g w g' w'∧SR w0 g' H' w'∧VR g' w' t v∧Fr g H g' H':=by
 have fh:=iE hc
 obtain⟨it,ho,h1⟩:=zz (jX hc)
 have hv:=uB hr it (by rw[ho];simp[Op.operands]) x h1
 rw[hx]at hv
 obtain⟨t,H',hn,v,w',g',cA,h3⟩:=Ki (P:=P) (ty:=o.type) h hv hb
 refine⟨t,H',v,w',g',hn,fun K Q hk=>⟨fun _ _=>trivial,?_⟩,h3⟩
 rw[Oper.semAt_eq _ _ _ fh]
 have e:(execOp a.eval o).run P w=.ok (.value v) w':=by
  obtain⟨dst,op,ty,pos,after,guard⟩:=o
  simp only at ho;subst ho
  simp[execOp,cA]
 rw[e]
 exact hk
theorem kQ {f:FuncId}{args:Array Value}(hf:dL P f=true):(callFunc f args).run P w=.ok (.enter f args) w:=by
 unfold dL at hf
 cases h:P.funcs[f]? with
 | none=>simp[h]at hf
 | some fn =>
  simp only[h,Bool.and_eq_true,bne_iff_ne,ne_eq]at hf
  obtain⟨c,hb⟩:=Option.isSome_iff_exists.1 hf.2
  simp[callFunc,h,hf.1,hb]
def zA (r:Option Nat)(P:Program)(o:Oper)(a:Act)(K:Act→World→Prop):Ending→World→Prop:=fun e w'=>∃v,e=.returned v∧K (a.put o.dst v) w'
theorem upon_enter {r:Option Nat}{o:Oper}{f:FuncId}{args:Array Value}{K:Act→World→Prop}{Q:Exit→Act→World→Prop}(h:CallsIn (Fw none) 0 P f args w (zA r P o a K)) :
  o.uponIn (Fw r) 0 P a K Q (.ok (.enter f args) w):=by
 rw[Oper.uponIn_enter]
 refine⟨fun h=>by simp[Fw]at h,(xL h).mono fun e w' he=>?_⟩
 obtain⟨v,rfl,hk⟩:=he
 exact hk
theorem vP {mu:Bool}{op:Op}{f:Nat}{as:List X}(h:bV P mu op=some (.call f as)) :
  ∃args jt,op=.call { callee:=.value (.func f),args:=args,argTypes:=jt }∧dL P f=true∧gm args.toList=some as:=by
 cases op
 case call c =>
  obtain⟨callee,args,jt⟩:=c
  cases callee
  case value x =>
   cases x
   case func f' =>
    simp only[bV]at h
    split at h
    ·rename_i hc
     simp only[Option.map_eq_some_iff]at h
     obtain⟨Sl,h1,h2⟩:=h
     cases h2
     exact⟨args,jt,rfl,hc,h1⟩
    ·split at h<;>cases h
   all_goals simp[bV,bM]at h
  all_goals (simp only[bV,Option.map_eq_some_iff]at h;obtain⟨_,_,h⟩:=h;cases h)
 all_goals (simp only[bV,Option.map_eq_some_iff]at h;obtain⟨_,_,h⟩:=h;cases h)
theorem ny {mu:Bool}{op:Op}{x:X}{as:List X}(h:bV P mu op=some (.bF x as)) :
  ∃t args jt,x=.r t∧op=.call { callee:=.value (.tmp t),args:=args,argTypes:=jt }∧gm args.toList=some as:=by
 cases op
 case call c =>
  obtain⟨callee,args,jt⟩:=c
  cases callee
  case value x =>
   cases x
   case tmp t =>
    simp only[bV,Option.map_eq_some_iff]at h
    obtain⟨Sl,h1,h2⟩:=h
    cases h2
    exact⟨t,args,jt,rfl,rfl,h1⟩
   case func f' =>
    simp only[bV]at h
    split at h
    ·simp only[Option.map_eq_some_iff]at h
     obtain⟨Sl,h1,h2⟩:=h
     cases h2
    ·split at h<;>cases h
   all_goals simp[bV,bM]at h
  all_goals (simp only[bV,Option.map_eq_some_iff]at h;obtain⟨_,_,h⟩:=h;cases h)
 all_goals (simp only[bV,Option.map_eq_some_iff]at h;obtain⟨_,_,h⟩:=h;cases h)
theorem CA {r:Option Nat}{mu:Bool}{o:Oper}{f:Nat}{as:List X}(hc:bV P mu o.op=some (.call f as))(hr:ir g w R a (fz o.op.operands.toList)) :
  ∃args:List Value,bL g w (as.map (X.ev R)) args ∧
   ∀(K:Act→World→Prop) (Q:Exit→Act→World→Prop),dL P f=true→CallsIn (Fw none) 0 P f args.toArray w (zA r P o a K)→o.wpIn (Fw r) 0 P a w K Q:=by
 have fh:=iE hc
 obtain⟨args,jt,ho,kR,h1⟩:=vP hc
 have hv:=gn (ρ:=a.eval) args.toList as h1 (uB (hr.sub fun t ht=>by
  simp only[fz,List.mem_filterMap]at ht ⊢
  obtain⟨x,hx,e⟩:=ht
  exact⟨x,by rw[ho];simp only[Op.operands,Call.operands];simp at hx;simp[hx],e⟩))
 refine⟨args.toList.map a.eval,hv,fun K Q _ hk=>⟨fun _ _=>trivial,?_⟩⟩
 rw[Oper.semAt_eq _ _ _ fh]
 have cA:(execOp a.eval o).run P w=.ok (.enter f (args.toList.map a.eval).toArray) w:=by
  have:=kQ (P:=P) (w:=w) (args:=(args.toList.map a.eval).toArray) kR
  have e2:(args.toList.map a.eval).toArray=args.map a.eval:=by rw[←Array.toList_map]
  rw[e2]at this ⊢
  simp only[execOp,ho,resolve,Act.eval,Deferred.ofValue,invoke]
  simpa using this
 rw[cA]
 exact upon_enter hk
theorem zB {r:Option Nat}{mu:Bool}{o:Oper}{x:X}{f:Nat}{cs:List T}{as:List X}(hc:bV P mu o.op=some (.bF x as))(hr:ir g w R a (fz o.op.operands.toList))(hx:x.ev R=.fn f cs) :
  ∃args:List Value,bL g w (as.map (X.ev R)++cs) args ∧
   ∀(K:Act→World→Prop) (Q:Exit→Act→World→Prop),dL P f=true→CallsIn (Fw none) 0 P f args.toArray w (zA r P o a K)→o.wpIn (Fw r) 0 P a w K Q:=by
 have fh:=iE hc
 obtain⟨t,args,jt,rfl,ho,h1⟩:=ny hc
 have hv:=gn (ρ:=a.eval) args.toList as h1 (uB (hr.sub fun t ht=>by
  simp only[fz,List.mem_filterMap]at ht ⊢
  obtain⟨x,hx,e⟩:=ht
  exact⟨x,by rw[ho];simp only[Op.operands,Call.operands];simp at hx;simp[hx],e⟩))
 have hf:=hr t (by rw[ho];simp only[fz,List.mem_filterMap];exact⟨.tmp t,by simp[Op.operands,Call.operands],rfl⟩)
 simp only[X.ev]at hx
 rw[hx]at hf
 generalize Kw:a.tmps.getD t undef=vf at hf
 cases hf with
 | @fn _ _ vs hl tG =>
  refine⟨args.toList.map a.eval++vs.toList,hv.append ⟨by simp[hl],fun i t v ha hb=>tG i t v ha (by simpa using hb)⟩,fun K Q kR hk=>⟨fun _ _=>trivial,?_⟩⟩
  rw[Oper.semAt_eq _ _ _ fh]
  have cA:(execOp a.eval o).run P w=.ok (.enter f (args.toList.map a.eval++vs.toList).toArray) w:=by
   have:=kQ (P:=P) (w:=w) (args:=(args.toList.map a.eval++vs.toList).toArray) kR
   have e2:(args.toList.map a.eval++vs.toList).toArray=args.map a.eval++vs:=by rw[←Array.toList_map];simp
   rw[e2]at this ⊢
   have e:a.eval (.tmp t)=.func (.func f) #[] vs:=Kw
   simp only[execOp,ho,resolve,e,Deferred.ofValue,invoke]
   simpa using this
  rw[cA]
  exact upon_enter hk
end
def nz:T→Option Nat
 | .ptr b _ | .map b=>some b
 | _=>none
def kS (R:aw)(y:It):Option Nat:=match y.o.d,y.o.op with
 | some d,.b (.alloc _)=>nz (R d)
 | some d,.b .Az=>nz (R d)
 | _,_=>none
def tP (g:Ctx)(N:Nat)(R:aw)(H:af)(y:It):Prop :=
 (bU R y.o.g=false∧∀d,y.o.d=some d→R d=b7) ∨
 (bU R y.o.g=true∧∃d b,y.o.d=some d∧y.o.op=.b b∧(
  ((rU b=.pure∨rU b=.read)∧aq R H b=some (R d,H)) ∨
  (∃k z,b=.alloc z∧R d=.ptr k 0∧H[k]?=some (.cells z)∧g.φ k=none∧N≤k) ∨
  (∃k,b=.Az∧R d=.map k∧H[k]?=some (.map [])∧g.φ k=none∧N≤k)))
theorem tP.mono {g g':Ctx}{N:Nat}{R R':aw}{H H':af}{y:It}(h:tP g N R H y)(hg:∀t∈nw y.o.g,R' t=R t)(hr:∀t∈AV y.o.op,R' t=R t)(hd:∀d,y.o.d=some d→R' d=R d)
  (Tt:∀d b,bU R y.o.g=true→y.o.d=some d→y.o.op=.b b→rU b=.read→aq R H b=some (R d,H)→aq R H' b=some (R d,H'))
  (xf:∀k x,kS R y=some k→H[k]?=some x→(∀e,x≠.tok e)→g.φ k=none→N≤k→H'[k]?=some x∧g'.φ k=none):tP g' N R' H' y:=by
 have hw:bU R' y.o.g=bU R y.o.g:=l8 hg
 rcases h with⟨h1,h2⟩|⟨h1,d,b,h2,h3,h4⟩
 ·exact .inl ⟨hw▸h1,fun d e=>by rw[hd d e];exact h2 d e⟩
 ·refine .inr ⟨hw▸h1,d,b,h2,h3,?_⟩
  rw[hd d h2]
  rw[h3]at hr
  rcases h4 with⟨hk,he⟩|⟨k,z,rfl,e1,e2,e3,e4⟩|⟨k,rfl,e1,e2,e3,e4⟩
  ·refine .inl ⟨hk,?_⟩
   rw[rW (R:=R') (R':=R) hr]
   rcases hk with hk|hk
   ·exact(uy hk he).2 H'
   ·exact Tt d b h1 h2 h3 hk he
  ·have hm:=xf k _ (by simp[kS,h2,h3,e1,nz]) e2 (by simp) e3 e4
   exact .inr (.inl ⟨k,z,rfl,e1,hm.1,hm.2,e4⟩)
  ·have hm:=xf k _ (by simp[kS,h2,h3,e1,nz]) e2 (by simp) e3 e4
   exact .inr (.inr ⟨k,rfl,e1,hm.1,hm.2,e4⟩)
theorem rX (a:Act)(d:Option Nat)(v:Value)(t:Nat)(hd:∀e,d=some e→e<a.tmps.size):(a.put d v).tmps.getD t undef=if d=some t then v else a.tmps.getD t undef:=by
 cases d with
 | none=>simp[Act.put]
 | some d =>
  have al:=hd d rfl
  simp only[Act.put]
  by_cases e:d=t
  ·subst e;simp[Array.getD_eq_getD_getElem?,al]
  ·rw[if_neg (by simpa using e),Array.getD_eq_getD_getElem?,Array.getD_eq_getD_getElem?,Array.getElem?_setIfInBounds_ne e]
theorem rY (a:Act)(d:Option Nat)(v:Value):(a.put d v).tmps.size=a.tmps.size:=by cases d<;>simp[Act.put]
theorem jH (a:Act)(d:Option Nat)(v:Value):(a.put d v).defers=a.defers:=by cases d<;>simp[Act.put]
theorem cF {R:aw}{d:Option Nat}{v:T}{t:Nat}(h:d≠some t):bE R d v t=R t:=by
 cases d with
 | none=>rfl
 | some d=>simp only[bE,pn];rw[if_neg];rintro rfl;exact h rfl
theorem jw {R:aw}{v:T}{t:Nat}:bE R (some t) v t=v:=by simp[bE,pn]
theorem SR.YY {w0 w:World}{g:Ctx}{H:af}(h:SR w0 g H w){x:B}(hx:(∃cs,x=.cells cs)∨∃es,x=.map es):SR w0 g (H++[x]) w:=by
 refine⟨h.size,h.kz,h.Ch,h.fresh,fun b y hy=>by have:=h.tE b y hy;simp;omega,fun t e y hy=>by have:=h.jF t e y hy;simp;omega,fun b y hy=>?_,h.qV,h.env⟩
 by_cases hb:b=H.length
 ·subst hb
  rw[fM]at hy
  have hn:=h.JV (b:=H.length) (Nat.le_refl _)
  cases hy
  rcases hx with⟨cs,rfl⟩|⟨es,rfl⟩<;>intro r o q hq<;>rw[hn]at hq<;>cases hq
 ·exact h.eG b y (dg hb hy)
theorem SR.drew {w0 w w':World}{g:Ctx}{H:af}(h:SR w0 g H w)(tr:Tr w w' hY ju)(hz:w'.heap.size=w.heap.size):SR w0 g H w'∧Le g w g w':=by
 have le:Le g w g w':=Le.iM tr (fun _ _ h=>h) (fun _ _ h=>h) (fun _ _ _ h=>h) (fun _ _ hs=>hs.elim)
 refine⟨?_,le⟩
 exact h.step (fun _=>False) tr le (fun _ _ hs=>hs.elim) (fun _ hm=>hm.elim) (fun r o hr=>h.fresh r o (by omega)) h.tE h.jF (fun _ _ _=>rfl) (fun _ _ _ _=>⟨id,id⟩) (fun _ _ _ _=>rfl) (fun b x hx=>.inl ⟨id,hx⟩)
section
variable {P:Program} {w0 w:World} {g:Ctx} {H:af} {a:Act}
theorem xM {r:Option Nat}{mu:Bool}{o:Oper}{z:List T}{k:Nat}(hm:zx o.op=true)(hc:bV P mu o.op=some (.b (.alloc z)))(h:SR w0 g H w)(hk:H[k]?=some (.cells z))(hn:g.φ k=none) :
  ∃v w' g',(∀(K:Act→World→Prop) (Q:Exit→Act→World→Prop),K (a.put o.dst v) w'→o.wpIn (Fw r) 0 P a w K Q)∧Le g w g' w'∧SR w0 g' H w'∧VR g' w' (.ptr k 0) v∧∀b,g.φ b=none→b≠k→g'.φ b=none:=by
 obtain⟨dst,op,ty,pos,after,guard⟩:=o
 simp only at hm hc
 have hc:=jX hc
 unfold zx at hm
 split at hm
 ·rename_i t _
  simp only[bM,Option.map_eq_some_iff]at hc
  obtain⟨z',h1,h2⟩:=hc
  cases h2
  obtain⟨i,zv,h2,h3,h4⟩:=gq h1
  obtain⟨hv,ho⟩:=dQ (g:=g) (w:=w) _ _ h4
  have tr:Tr w w hY ju:=Tr.refl w
  obtain⟨le,sr,fr⟩:=h.mut (c:=zv.cells) (ty:=t) (H':=H) (b:=k) tr rfl hk hn (fun b' x _ hx=>.inl hx) (Nat.le_refl _) (fun b' x hx _ _ _=>hx) (by simpa using hv.Om ho)
  refine⟨.pointer (some ⟨w.heap.size,0,none⟩),_,_,fun K Q hk=>⟨fun _ _=>trivial,?_⟩,le,sr,.ptr (r:=w.heap.size) (o:=0) (q:=zv.cells.size) (by simp[Ctx.at]),fun b hb bQ=>by simp only[Ctx.at,Ctx.row];rw[if_neg bQ];exact hb⟩
  rw[Oper.semAt_eq _ _ _ (by rintro c⟨⟩)]
  have cA:(execOp a.eval ⟨dst,.alloc t,ty,pos,after,guard⟩).run P w=.ok (.value (.pointer (some ⟨w.heap.size,0,none⟩))) (w.alloc (.cells zv.cells t)):=by
   simp[execOp,Instr.alloc,zeroValue,bA h2,h3,newVar,newRow]
  rw[cA]
  exact hk
 ·simp[bM]at hc
 ·cases hm
theorem CB {r:Option Nat}{mu:Bool}{o:Oper}{k:Nat}(hm:zx o.op=true)(hc:bV P mu o.op=some (.b .Az))(h:SR w0 g H w)(hk:H[k]?=some (.map []))(hn:g.φ k=none) :
  ∃v w' g',(∀(K:Act→World→Prop) (Q:Exit→Act→World→Prop),K (a.put o.dst v) w'→o.wpIn (Fw r) 0 P a w K Q)∧Le g w g' w'∧SR w0 g' H w'∧VR g' w' (.map k) v∧∀b,g.φ b=none→b≠k→g'.φ b=none:=by
 obtain⟨dst,op,ty,pos,after,guard⟩:=o
 simp only at hm hc
 have hc:=jX hc
 unfold zx at hm
 split at hm
 ·simp[bM]at hc
 ·rename_i t _
  obtain⟨le,sr⟩:=h.Em (H':=H) (b:=k) hk hn (fun b' x _ hx=>hx) (Nat.le_refl _)
  refine⟨.map (some w.heap.size),_,_,fun K Q hk=>⟨fun _ _=>trivial,?_⟩,le,sr,.map (r:=w.heap.size) (o:=0) (q:=0) (by simp[Ctx.at]),fun b hb bQ=>by simp only[Ctx.at,Ctx.row];rw[if_neg bQ];exact hb⟩
  rw[Oper.semAt_eq _ _ _ (by rintro c⟨⟩)]
  have cA:(execOp a.eval ⟨dst,.makeMap t none,ty,pos,after,guard⟩).run P w=.ok (.value (.map (some w.heap.size))) (w.alloc (.map #[] 0)):=by
   simp[execOp,Instr.makeMap]
  rw[cA]
  exact hk
 ·cases hm
end
theorem Fr.ext (g:Ctx)(H l:af):Fr g H g (H++l):=⟨by simp,fun b x hx _ hn=>⟨mI hx,hn⟩⟩
structure Dr (P:Program)(n:Nat)(ops:Array Oper)(mu:Nat→Bool)(w0:World)(df:List Deferred)(mk:T)(g0:Ctx)(ws:World)(H0:af)
  (pre:List It) (L:Array Bool) (g:Ctx) (R:aw) (H:af) (a:Act) (w:World):Prop where
 zC:L.size=ops.size
 cmp:∀y∈pre,∃o,ops[y.i]?=some o∧(∃st,fZ P n ops (mu y.i) o st=some y.o)∧y.ts=tmpsOf o y.o.op y.o.g
 rd:∀y∈pre,∀z∈pre,z.early=true→∀d,z.o.d=some d→d∈y.ts→((fq ops.toList []).getD y.i 0).testBit z.i=true
 dd:∀y∈pre,∀z∈pre,∀d,y.o.d=some d→z.o.d=some d→y.i=z.i
 kl:∀y∈pre,y.early=true→∀o,ops[y.i]?=some o→Jm y.o=.make→zx o.op=true
 uniq:∀y∈pre,∀z∈pre,y.i=z.i→y=z
 tQ:∀y∈pre,∀o,ops[y.i]?=some o→∀j∈cE o,j<y.i
 closed:∀i o,ops[i]?=some o→L.getD i false=true→∀j∈cE o,j<i∧L.getD j false=true
 sub:∀i,L.getD i false=true→∃y∈pre,y.i=i
 rZ:∀y∈pre,y.early=false→L.getD y.i false=true
 sr:SR w0 g H w
 le:Le g0 ws g w
 fr:Fr g0 H0 g H
 xg:a.tmps.size=n
 vQ:∀t,t<n→(∀y∈pre,L.getD y.i false=false→y.o.d≠some t)→VR g w (R t) (a.tmps.getD t undef)
 fV:∀y∈pre,L.getD y.i false=false→tP g H0.length R H y
 inj:∀y∈pre,∀z∈pre,L.getD y.i false=false→L.getD z.i false=false→y.i≠z.i→∀k,kS R y=some k→kS R z≠some k
 MS:a.defers=df
 MT:R n=mk
section
variable {P:Program} {n:Nat} {ops:Array Oper} {mu:Nat→Bool} {w0 w ws:World} {df:List Deferred} {mk:T} {g g0:Ctx} {H H0 H':af} {pre:List It} {L:Array Bool} {R:aw} {a:Act} {r:Option Nat}
theorem mJ {i:Nat}(h:i∈Region.ready .any ops L):L.getD i false=false∧∃o,ops[i]?=some o∧∀j∈cE o,L.getD j false=true:=by
 obtain⟨h1,o,h2,h3⟩:=mem_ready.1 h
 refine⟨?_,o,h2,fun j hj=>?_⟩
 ·cases hi:L[i]? with
  | none=>simp[Array.getD_eq_getD_getElem?,hi]at h1
  | some b=>simp[Array.getD_eq_getD_getElem?,hi]at h1 ⊢;exact h1
 ·simp only[cE,List.mem_map,List.mem_filter]at hj
  obtain⟨e,⟨he,hb⟩,rfl⟩:=hj
  exact h3 e (by simpa using he) hb
theorem Dr.bit (h:Dr P n ops mu w0 df mk g0 ws H0 pre L g R H a w){i:Nat}{o:Oper}{t:Nat}(ho:ops[i]?=some o)(hp:∀j∈cE o,j<i∧L.getD j false=true)
  (hb:((fq ops.toList []).getD i 0).testBit t=true):L.getD t false=true :=
 xK (D:=fun i=>L.getD i false=true) h.closed i o t ho hp hb
theorem dM {i j:Nat}(hi:i<L.size):(L.setIfInBounds i true).getD j false=if i=j then true else L.getD j false:=by
 by_cases e:i=j
 ·subst e;simp[Array.getD_eq_getD_getElem?,hi]
 ·rw[if_neg e,Array.getD_eq_getD_getElem?,Array.getD_eq_getD_getElem?,Array.getElem?_setIfInBounds_ne e]
theorem iv {o:Oper}{y:It}(h:y.ts=tmpsOf o y.o.op y.o.g):(∀t∈nw y.o.g,t∈y.ts)∧(∀t∈AV y.o.op,t∈y.ts)∧∀t∈fz o.op.operands.toList,t∈y.ts:=by
 rw[h];unfold tmpsOf
 exact⟨fun t ht=>by simp[ht],fun t ht=>by simp[ht],fun t ht=>by simp[ht]⟩
theorem Dr.look (h:Dr P n ops mu w0 df mk g0 ws H0 pre L g R H a w){i:Nat}{o:Oper}{ts:List Nat}(ho:ops[i]?=some o)(hp:∀j∈cE o,j<i∧L.getD j false=true)(hn:∀t∈ts,t<n)
  (hz:∀z∈pre,z.early=true→∀d,z.o.d=some d→d∈ts→((fq ops.toList []).getD i 0).testBit z.i=true):ir g w R a ts:=by
 intro t ht
 refine h.vQ t (hn t ht) fun z qY hu hd=>?_
 cases he:z.early with
 | false=>rw[h.rZ z qY he]at hu;cases hu
 | true=>rw[h.bit ho hp (hz z qY he t hd ht)]at hu;cases hu
theorem Dr.late (h:Dr P n ops mu w0 df mk g0 ws H0 pre L g R H a w){y:It}(hy:y∈pre)(hr:y.i∈Region.ready .any ops L) :
  ∃v w' g',(∀(K:Act→World→Prop) (Q:Exit→Act→World→Prop),K (a.put y.o.d v) w'→wpOpIn (Fw r) 0 P ops Q y.i K a w) ∧
   Dr P n ops mu w0 df mk g0 ws H0 pre (L.setIfInBounds y.i true) g' R H (a.put y.o.d v) w':=by
 obtain⟨OK,o,ho,pV⟩:=mJ hr
 obtain⟨o',nJ,⟨st,fW⟩,CC⟩:=h.cmp y hy
 rw[ho]at nJ;cases nJ
 obtain⟨op,gd,Sm,hgd,OL,YZ,Jn⟩:=bC fW
 have hd:y.o.d=o.dst:=by rw[OL]
 have Tu:y.o.op=op:=by rw[OL]
 have Y0:y.o.g=gd:=by rw[OL]
 obtain⟨ht1,XO,ht3⟩:=iv CC
 have hp:∀j∈cE o,j<y.i∧L.getD j false=true:=fun j hj=>⟨h.tQ y hy o ho j hj,pV j hj⟩
 have py:ir g w R a y.ts:=h.look ho hp (fun t ht=>YZ t (by rw[CC,Tu,Y0]at ht;exact ht)) (h.rd y hy)
 have XP:Region.wanted o (yielded ops a.tmps)=bU R y.o.g:=by
  rw[Y0];exact pU hgd h.xg (fun t ht=>YZ t (by simp[tmpsOf,ht])) (py.sub (by rw[←Y0];exact ht1))
 have l3:y.i<L.size:=by rw[h.zC];exact(Array.getElem?_eq_some_iff.1 ho).1
 have Y1:∀e,y.o.d=some e→e<a.tmps.size:=fun e he=>by rw[h.xg];exact Jn e (hd▸he)
 have dV:∀v w' g',Le g w g' w'→SR w0 g' H w'→(∀d,y.o.d=some d→VR g' w' (R d) v)→Fr g0 H0 g' H→(∀z∈pre,L.getD z.i false=false→z.i≠y.i→tP g' H0.length R H z) →
   Dr P n ops mu w0 df mk g0 ws H0 pre (L.setIfInBounds y.i true) g' R H (a.put y.o.d v) w':=by
  intro v w' g' le sr hv fr Tv
  refine { zC:=(by simp[h.zC]),cmp:=h.cmp,rd:=h.rd,dd:=h.dd,kl:=h.kl,uniq:=h.uniq,tQ:=h.tQ,closed:=?_,sub:=?_,rZ:=?_,sr:=sr,le:=h.le.trans le,fr:=fr,xg:=(by rw[rY];exact h.xg),vQ:=?_,fV:=?_,inj:=?_,MS:=(by rw[jH];exact h.MS),MT:=h.MT }
  ·intro i oi uC zD j hj
   rw[dM l3]at zD ⊢
   by_cases e:y.i=i
   ·subst e;rw[ho]at uC;cases uC
    obtain⟨h1,h2⟩:=hp j hj
    exact⟨h1,by split<;>simp[h2]⟩
   ·rw[if_neg e]at zD
    obtain⟨h1,h2⟩:=h.closed i oi uC zD j hj
    exact⟨h1,by split<;>simp[h2]⟩
  ·intro i zD
   rw[dM l3]at zD
   by_cases e:y.i=i
   ·exact⟨y,hy,e⟩
   ·rw[if_neg e]at zD;exact h.sub i zD
  ·intro z hz he
   rw[dM l3]
   split
   ·rfl
   ·exact h.rZ z hz he
  ·intro t ht ey
   rw[rX _ _ _ _ Y1]
   split
   ·rename_i e;exact hv t e
   ·rename_i e
    refine(h.vQ t ht fun z hz hu ra=>?_).mono le
    by_cases ez:y.i=z.i
    ·rw[h.uniq y hy z hz ez]at e;exact e ra
    ·exact ey z hz (by rw[dM l3,if_neg ez];exact hu) ra
  ·intro z hz hu
   rw[dM l3]at hu
   by_cases ez:y.i=z.i
   ·rw[if_pos ez]at hu;cases hu
   ·rw[if_neg ez]at hu;exact Tv z hz hu (Ne.symm ez)
  ·intro z hz z' qY hu EL
   rw[dM l3]at hu EL
   by_cases ez:y.i=z.i
   ·rw[if_pos ez]at hu;cases hu
   ·by_cases ez':y.i=z'.i
    ·rw[if_pos ez']at EL;cases EL
    ·rw[if_neg ez]at hu;rw[if_neg ez']at EL;exact h.inj z hz z' qY hu EL
 have EM:∀g',Fr g H g' H→∀z∈pre,L.getD z.i false=false→z.i≠y.i→tP g' H0.length R H z:=fun g' fr z hz hu _ =>
  (h.fV z hz hu).mono (fun _ _=>rfl) (fun _ _=>rfl) (fun _ _=>rfl) (fun _ _ _ _ _ _ e=>e) (fun k x _ hx Kz hn _=>fr.2 k x hx Kz hn)
 rcases h.fV y hy OK with⟨hw,hu⟩|⟨hw,d,b,pw,lL,Tw⟩
 ·refine⟨undef,w,g,fun K Q hk=>?_,dV undef w g (.refl _ _) h.sr (fun d e=>by rw[hu d e];exact iS) h.fr (EM g (.refl _ _))⟩
  unfold wpOpIn
  simp only[ho,XP,hw]
  rw[hd]at hk
  exact⟨fun _ _=>trivial,hk⟩
 ·have OM:bV P (mu y.i) o.op=some (.b b):=by rw[←lL,Tu];exact Sm
  rcases Tw with⟨hk,he⟩|⟨k,z,rfl,e1,e2,e3,e4⟩|⟨k,rfl,e1,e2,e3,e4⟩
  ·obtain⟨v,w',g',hs,le,sr,hv,fr⟩:=EJ (r:=r) OM h.sr (py.sub ht3) he
   refine⟨v,w',g',fun K Q bO=>?_,dV v w' g' le sr (fun d' e=>by rw[pw]at e;cases e;exact hv) (h.fr.trans fr) (EM g' fr)⟩
   unfold wpOpIn
   simp only[ho,XP,hw,if_true]
   exact hs K Q (by rw[←hd];exact bO)
  ·-- a variable ad9 kO place
   have ON:y.early=true:=by cases he:y.early with|true=>rfl|false=>rw[h.rZ y hy he]at OK;cases OK
   have xf:=h.kl y hy ON o ho (by simp[Jm,lL,pw,rU])
   obtain⟨v,w',g',hs,le,sr,hv,hφ⟩:=xM (r:=r) (a:=a) xf OM h.sr e2 e3
   have Y2:kS R y=some k:=by simp[kS,pw,lL,e1,nz]
   refine⟨v,w',g',fun K Q bO=>?_,dV v w' g' le sr (fun d' e=>by rw[pw]at e;cases e;rw[e1];exact hv) ⟨h.fr.1,fun b x hx Kz hb=>?_⟩ fun z' qY EL bQ=>?_⟩
   ·unfold wpOpIn
    simp only[ho,XP,hw,if_true]
    exact hs K Q (by rw[←hd];exact bO)
   ·obtain⟨f1,f2⟩:=h.fr.2 b x hx Kz hb
    exact⟨f1,hφ b f2 (by have:=(List.getElem?_eq_some_iff.1 hx).1;omega)⟩
   ·exact(h.fV z' qY EL).mono (fun _ _=>rfl) (fun _ _=>rfl) (fun _ _=>rfl) (fun _ _ _ _ _ _ e=>e) fun k' x rL hx _ hn _ =>
     ⟨hx,hφ k' hn (by rintro rfl;exact h.inj y hy z' qY OK EL (Ne.symm bQ) k' Y2 rL)⟩
  ·have ON:y.early=true:=by cases he:y.early with|true=>rfl|false=>rw[h.rZ y hy he]at OK;cases OK
   have xf:=h.kl y hy ON o ho (by simp[Jm,lL,pw,rU])
   obtain⟨v,w',g',hs,le,sr,hv,hφ⟩:=CB (r:=r) (a:=a) xf OM h.sr e2 e3
   have Y2:kS R y=some k:=by simp[kS,pw,lL,e1,nz]
   refine⟨v,w',g',fun K Q bO=>?_,dV v w' g' le sr (fun d' e=>by rw[pw]at e;cases e;rw[e1];exact hv) ⟨h.fr.1,fun b x hx Kz hb=>?_⟩ fun z' qY EL bQ=>?_⟩
   ·unfold wpOpIn
    simp only[ho,XP,hw,if_true]
    exact hs K Q (by rw[←hd];exact bO)
   ·obtain⟨f1,f2⟩:=h.fr.2 b x hx Kz hb
    exact⟨f1,hφ b f2 (by have:=(List.getElem?_eq_some_iff.1 hx).1;omega)⟩
   ·exact(h.fV z' qY EL).mono (fun _ _=>rfl) (fun _ _=>rfl) (fun _ _=>rfl) (fun _ _ _ _ _ _ e=>e) fun k' x rL hx _ hn _ =>
     ⟨hx,hφ k' hn (by rintro rfl;exact h.inj y hy z' qY OK EL (Ne.symm bQ) k' Y2 rL)⟩
end
structure Hd (P:Program)(n:Nat)(ops:Array Oper)(mu:Nat→Bool)(pre:List It)(x:It)(o:Oper):Prop where
 ho:ops[x.i]?=some o
 co:fZ P n ops (mu x.i) o x.o.B7=some x.o
 ts:x.ts=tmpsOf o x.o.op x.o.g
 st:x.early=false→x.o.B7=jG ((fq ops.toList []).getD x.i 0) pre
 pred:∀j∈cE o,j<x.i∧∃z∈pre,z.i=j
 beh:∀z∈pre,z.early=true∨((fq ops.toList []).getD x.i 0).testBit z.i=true
 ne:∀z∈pre,z.i≠x.i
 dst:∀d,x.o.d=some d→(∀z∈pre,z.o.d≠some d∧(d∈z.ts→x.early=false∧((fq ops.toList []).getD x.i 0).testBit z.i=true))∧d∉x.ts
 Y3:∀z∈pre,∀d,z.o.d=some d→d∈x.ts→((fq ops.toList []).getD x.i 0).testBit z.i=true
 kl:x.early=true→Jm x.o≠.OJ∧(Jm x.o=.make→zx o.op=true)
theorem CD {P:Program}{n:Nat}{ops:Array Oper}{mu:Nat→Bool}{pre:List It}{y:Nat×Bool}{x:It}(h:zy P n ops mu ((fq ops.toList []).getD y.1 0) pre y=some x):∃o,Hd P n ops mu pre x o:=by
 unfold zy at h
 generalize Ji:(fq ops.toList []).getD y.1 0=bs at h
 cases ho:ops[y.1]? with
 | none=>simp[ho]at h
 | some o =>
  rw[ho]at h;dsimp only at h
  cases hc:fZ P n ops (mu y.1) o (if y.2=true then []else jG bs pre)with
  | none=>rw[hc]at h;cases h
  | some o' =>
   rw[hc]at h;dsimp only at h
   split at h
   ·rename_i hk
    cases h
    subst Ji
    have cO:o'.B7=if y.2=true then []else jG ((fq ops.toList []).getD y.1 0) pre:=by
     obtain⟨op,gd,_,_,e,_⟩:=bC hc;rw[e]
    simp only[EH,Bool.and_eq_true,List.all_eq_true,decide_eq_true_eq,List.any_eq_true,beq_iff_eq,Bool.or_eq_true,bne_iff_ne,ne_eq,Bool.not_eq_true']at hk
    obtain⟨⟨⟨⟨⟨k1,k2⟩,k3⟩,k4⟩,k5⟩,k6⟩:=hk
    refine⟨o,ho,by rw[cO];exact hc,rfl,fun he=>by simp only at he;rw[cO,he];rfl,k1,k2,k3,fun d hd=>?_,fun z hz d hd ht=>?_,fun he=>?_⟩
    ·simp only at hd
     rw[hd]at k4
     simp only[List.all_eq_true,Bool.and_eq_true,bne_iff_ne,ne_eq,Bool.or_eq_true,Bool.not_eq_true',List.contains_eq_mem,decide_eq_false_iff_not,decide_eq_true_eq]at k4
     exact⟨fun z hz=>⟨(k4.1 z hz).1,fun ht=>((k4.1 z hz).2.resolve_left (fun hn=>hn ht))⟩,k4.2⟩
    ·have:=k5 z hz
     rw[hd]at this
     simp only[Bool.or_eq_true,Bool.not_eq_true',List.contains_eq_mem,decide_eq_false_iff_not]at this
     exact this.resolve_left (fun hn=>hn ht)
    ·rcases k6 with k6|k6
     ·have DG:y.2=true:=he
      rw[DG]at k6;cases k6
     ·exact⟨k6.1,fun hm=>k6.2.resolve_left (fun hn=>hn hm)⟩
   ·cases h
theorem kT {P:Program}{n:Nat}{ops:Array Oper}{mu:Nat→Bool}{pre:List It}{y:Nat×Bool}{ord:List (Nat×Bool)}{kO:List It}(h:ew P n ops mu (fq ops.toList []) pre (y :: ord)=some kO) :
  ∃x l o,kO=x :: l∧Hd P n ops mu pre x o∧ew P n ops mu (fq ops.toList []) (pre++[x]) ord=some l:=by
 simp only[ew]at h
 split at h
 ·rename_i x hx
  simp only[Option.map_eq_some_iff]at h
  obtain⟨l,h1,rfl⟩:=h
  obtain⟨o,ho⟩:=CD hx
  exact⟨x,l,o,rfl,ho,h1⟩
 ·cases h
theorem dh {P:Program}{n:Nat}{ops:Array Oper}{mu:Nat→Bool}:∀(ord:List (Nat×Bool)) (pre kO:List It),ew P n ops mu (fq ops.toList []) pre ord=some kO→∀i,i<ops.size→∃y∈pre++kO,y.i=i
 | [],pre,kO,h,i,hi=>by
  simp only[ew]at h
  split at h
  ·rename_i hk
   cases h
   simp only[List.all_eq_true,List.mem_range,List.any_eq_true,beq_iff_eq]at hk
   simpa using hk i hi
  ·cases h
 | y :: ord,pre,kO,h,i,hi=>by
  obtain⟨x,l,o,rfl,_,h2⟩:=kT h
  simpa using dh ord (pre++[x]) l h2 i hi
theorem dD {P:Program}{n:Nat}{ops:Array Oper}{mu:Nat→Bool}:∀(ord:List (Nat×Bool)) (pre kO:List It),ew P n ops mu (fq ops.toList []) pre ord=some kO→∀y∈kO,(∃o,ops[y.i]?=some o∧(∀j∈cE o,j<y.i))∧∀z∈pre,z.early=true∨((fq ops.toList []).getD y.i 0).testBit z.i=true
 | [],pre,kO,h,y,hy=>by
  simp only[ew]at h
  split at h
  ·cases h;cases hy
  ·cases h
 | u :: ord,pre,kO,h,y,hy=>by
  obtain⟨x,l,o,rfl,h1,h2⟩:=kT h
  rcases List.mem_cons.1 hy with rfl|hy
  ·exact⟨⟨o,h1.ho,fun j hj=>(h1.pred j hj).1⟩,h1.beh⟩
  ·obtain⟨h3,h4⟩:=dD ord (pre++[x]) l h2 y hy
   exact⟨h3,fun z hz=>h4 z (by simp[hz])⟩
theorem sb {b:Nat}{y:It}{d:Nat}{op:Bo}:∀(pre:List It),y∈pre→y.early=true→y.o.d=some d→y.o.op=.b op→rU op=.read→b.testBit y.i=false→⟨d,op,y.o.g⟩∈jG b pre
 | [],h,_,_,_,_,_=>by cases h
 | z :: pre,h,h1,h2,h3,h4,h5=>by
  rcases List.mem_cons.1 h with rfl|h
  ·simp[jG,h1,h2,h3,h4,h5]
  ·have ih:=sb pre h h1 h2 h3 h4 h5
   simp only[jG]
   split
   ·split
    ·exact List.mem_cons_of_mem _ ih
    ·exact ih
   ·exact ih
theorem iT {R R':aw}{y:It}(h:∀d,y.o.d=some d→R' d=R d):kS R' y=kS R y:=by
 unfold kS
 split
 ·rename_i d z h1 h2;simp only[h1,h2,h d h1]
 ·rename_i d h1 h2;simp only[h1,h2,h d h1]
 ·rfl
theorem tP.lt {g:Ctx}{N:Nat}{R:aw}{H:af}{y:It}(h:tP g N R H y){k:Nat}(hm:kS R y=some k):k<H.length:=by
 unfold kS at hm
 rcases h with⟨_,h2⟩|⟨_,d,b,h2,h3,h4⟩
 ·split at hm
  ·rename_i d z h1 _;rw[h2 d h1]at hm;cases hm
  ·rename_i d h1 _;rw[h2 d h1]at hm;cases hm
  ·cases hm
 ·rw[h2,h3]at hm
  rcases h4 with⟨hk,he⟩|⟨k',z,rfl,e1,e2,e3,e4⟩|⟨k',rfl,e1,e2,e3,e4⟩
  ·cases b<;>simp[rU]at hk hm
  ·simp only[e1,nz,Option.some.injEq]at hm;subst hm;exact(List.getElem?_eq_some_iff.1 e2).1
  ·simp only[e1,nz,Option.some.injEq]at hm;subst hm;exact(List.getElem?_eq_some_iff.1 e2).1
section
variable {P:Program} {n:Nat} {ops:Array Oper} {mu:Nat→Bool} {w0 w w' ws:World} {df:List Deferred} {mk:T} {g g' g0:Ctx} {H H0 H':af} {pre:List It} {L:Array Bool} {R:aw} {a:Act} {r:Option Nat} {x:It} {o:Oper}
theorem Dr.nN (h:Dr P n ops mu w0 df mk g0 ws H0 pre L g R H a w)(hd:Hd P n ops mu pre x o):L.getD x.i false=false:=by
 cases e:L.getD x.i false with
 | false=>rfl
 | true=>obtain⟨y,hy,e⟩:=h.sub x.i e;exact absurd e (hd.ne y hy)
theorem bg {α:Type}{y x:α}{l:List α}(h:y∈l++[x]):y∈l∨y=x:=by simpa using h
theorem Dr.take (h:Dr P n ops mu w0 df mk g0 ws H0 pre L g R H a w)(hd:Hd P n ops mu pre x o)(he:x.early=true){t:T}(hp:tP g H0.length (bE R x.o.d t) H' x)
  (hH:H'=H∨∃B,H'=H++[B]∧((∃cs,B=.cells cs)∨∃es,B=.map es)) (hm:∀k,kS (bE R x.o.d t) x=some k→H.length≤k):Dr P n ops mu w0 df mk g0 ws H0 (pre++[x]) L g (bE R x.o.d t) H' a w:=by
 have EN:=h.nN hd
 have fh:∀t:T,x.o.d≠some n:=fun _ e=>by
  obtain⟨op,gd,_,_,OL,_,Jn⟩:=bC hd.co
  have XQ:x.o.d=o.dst:=by rw[OL]
  exact Nat.lt_irrefl n (Jn n (XQ▸e))
 have CC:∀z∈pre,∀u∈z.ts,bE R x.o.d t u=R u:=fun z hz u hu=>cF fun e=>by
  obtain⟨h1,_⟩:=((hd.dst u e).1 z hz).2 hu
  rw[he]at h1;cases h1
 have DK:∀z∈pre,∀d,z.o.d=some d→bE R x.o.d t d=R d:=fun z hz d ra=>cF fun e=>((hd.dst d e).1 z hz).1 ra
 have Y4:∃l,H'=H++l:=by
  rcases hH with rfl|⟨B,rfl,_⟩
  ·exact⟨[],by simp⟩
  ·exact⟨[B],rfl⟩
 obtain⟨l,hl⟩:=Y4
 have hpz:∀z∈pre,L.getD z.i false=false→tP g H0.length (bE R x.o.d t) H' z:=fun z hz hu=>by
  obtain⟨oz,_,_,Y5⟩:=h.cmp z hz
  obtain⟨t1,t2,_⟩:=iv Y5
  refine(h.fV z hz hu).mono (fun u hu=>CC z hz u (t1 u hu)) (fun u hu=>CC z hz u (t2 u hu)) (DK z hz) (fun d b _ _ _ hk e=>?_) (fun k y _ hy _ hn _=>?_)
  ·subst hl;exact(uz hk e).2 l
  ·subst hl;exact⟨mI hy,hn⟩
 refine { zC:=h.zC,cmp:=?_,rd:=?_,dd:=?_,kl:=?_,uniq:=?_,tQ:=?_,closed:=h.closed,sub:=fun i hi=>?_,rZ:=?_,sr:=?_,le:=h.le,fr:=?_,xg:=h.xg,vQ:=?_,fV:=?_,inj:=?_,MS:=h.MS,MT:=(by rw[cF (fh t)];exact h.MT) }
 ·intro y hy
  replace hy:=bg hy;rcases hy with hy|rfl
  ·exact h.cmp y hy
  ·exact⟨o,hd.ho,⟨_,hd.co⟩,hd.ts⟩
 ·intro y hy z hz Tx d ra OO
  replace hy:=bg hy;rcases hy with hy|rfl
  ·replace hz:=bg hz;rcases hz with hz|rfl
   ·exact h.rd y hy z hz Tx d ra OO
   ·obtain⟨h1,_⟩:=((hd.dst d ra).1 y hy).2 OO
    rw[he]at h1;cases h1
  ·replace hz:=bg hz;rcases hz with hz|rfl
   ·exact hd.Y3 z hz d ra OO
   ·exact absurd OO (hd.dst d ra).2
 ·intro y hy z hz d KA ra
  replace hy:=bg hy;rcases hy with hy|rfl
  ·replace hz:=bg hz;rcases hz with hz|rfl
   ·exact h.dd y hy z hz d KA ra
   ·exact absurd KA ((hd.dst d ra).1 y hy).1
  ·replace hz:=bg hz;rcases hz with hz|rfl
   ·exact absurd ra ((hd.dst d KA).1 z hz).1
   ·rfl
 ·intro y hy AW o' nJ
  replace hy:=bg hy;rcases hy with hy|rfl
  ·exact h.kl y hy AW o' nJ
  ·rw[hd.ho]at nJ;cases nJ;exact(hd.kl AW).2
 ·intro y hy z hz e
  replace hy:=bg hy;rcases hy with hy|rfl
  ·replace hz:=bg hz;rcases hz with hz|rfl
   ·exact h.uniq y hy z hz e
   ·exact absurd e (hd.ne y hy)
  ·replace hz:=bg hz;rcases hz with hz|rfl
   ·exact absurd e.symm (hd.ne z hz)
   ·rfl
 ·intro y hy o' nJ j hj
  replace hy:=bg hy;rcases hy with hy|rfl
  ·exact h.tQ y hy o' nJ j hj
  ·rw[hd.ho]at nJ;cases nJ;exact(hd.pred j hj).1
 ·obtain⟨y,hy,e⟩:=h.sub i hi
  exact⟨y,by simp[hy],e⟩
 ·intro y hy AW
  replace hy:=bg hy;rcases hy with hy|rfl
  ·exact h.rZ y hy AW
  ·rw[he]at AW;cases AW
 ·rcases hH with rfl|⟨B,rfl,hB⟩
  ·exact h.sr
  ·exact h.sr.YY hB
 ·subst hl;exact h.fr.trans (Fr.ext g H l)
 ·intro u hu ey
  rw[cF (ey x (by simp) EN)]
  exact h.vQ u hu fun y hy qH=>ey y (by simp[hy]) qH
 ·intro y hy qH
  replace hy:=bg hy;rcases hy with hy|rfl
  ·exact hpz y hy qH
  ·exact hp
 ·intro y hy z hz qH xA bQ k hk lr
  replace hy:=bg hy;rcases hy with hy|rfl
  ·rw[iT (DK y hy)]at hk
   replace hz:=bg hz;rcases hz with hz|rfl
   ·rw[iT (DK z hz)]at lr
    exact h.inj y hy z hz qH xA bQ k hk lr
   ·have h1:=(h.fV y hy qH).lt hk
    have h2:=hm k lr
    omega
  ·replace hz:=bg hz;rcases hz with hz|rfl
   ·rw[iT (DK z hz)]at lr
    have h1:=(h.fV z hz xA).lt lr
    have h2:=hm k hk
    omega
   ·exact bQ rfl
theorem Dr.both (h:Dr P n ops mu w0 df mk g0 ws H0 pre L g R H a w)(hd:Hd P n ops mu pre x o)(he:x.early=false)(hp:∀j∈cE o,L.getD j false=true){t:T}{v:Value}(le:Le g w g' w')(sr:SR w0 g' H' w')(hv:VR g' w' t v)(fr:Fr g H g' H')
  (hs:∀y∈pre,L.getD y.i false=false→∀d b,bU R y.o.g=true→y.o.d=some d→y.o.op=.b b→rU b=.read→aq R H b=some (R d,H)→aq R H' b=some (R d,H')) :
  Dr P n ops mu w0 df mk g0 ws H0 (pre++[x]) (L.setIfInBounds x.i true) g' (bE R x.o.d t) H' (a.put x.o.d v) w':=by
 have l3:x.i<L.size:=by rw[h.zC];exact(Array.getElem?_eq_some_iff.1 hd.ho).1
 have XK:∀j∈cE o,j<x.i∧L.getD j false=true:=fun j hj=>⟨(hd.pred j hj).1,hp j hj⟩
 obtain⟨op,gd,Sm,hgd,OL,YZ,Jn⟩:=bC hd.co
 have XQ:x.o.d=o.dst:=by rw[OL]
 have Y1:∀e,x.o.d=some e→e<a.tmps.size:=fun e h1=>by rw[h.xg];exact Jn e (XQ▸h1)
 have CC:∀z∈pre,L.getD z.i false=false→∀u∈z.ts,bE R x.o.d t u=R u:=fun z hz hu u hut=>cF fun e=>by
  obtain⟨_,h2⟩:=((hd.dst u e).1 z hz).2 hut
  rw[h.bit hd.ho XK h2]at hu;cases hu
 have DK:∀z∈pre,∀d,z.o.d=some d→bE R x.o.d t d=R d:=fun z hz d ra=>cF fun e=>((hd.dst d e).1 z hz).1 ra
 refine { zC:=(by simp[h.zC]),cmp:=?_,rd:=?_,dd:=?_,kl:=?_,uniq:=?_,tQ:=?_,closed:=?_,sub:=?_,rZ:=?_,sr:=sr,le:=h.le.trans le,fr:=h.fr.trans fr,xg:=(by rw[rY];exact h.xg),vQ:=?_,fV:=?_,inj:=?_,MS:=(by rw[jH];exact h.MS),MT:=(by rw[cF (fun e=>Nat.lt_irrefl n (Jn n (XQ▸e)))];exact h.MT) }
 ·intro y hy
  replace hy:=bg hy;rcases hy with hy|rfl
  ·exact h.cmp y hy
  ·exact⟨o,hd.ho,⟨_,hd.co⟩,hd.ts⟩
 ·intro y hy z hz Tx d ra OO
  replace hz:=bg hz;rcases hz with hz|rfl
  ·replace hy:=bg hy;rcases hy with hy|rfl
   ·exact h.rd y hy z hz Tx d ra OO
   ·exact hd.Y3 z hz d ra OO
  ·rw[he]at Tx;cases Tx
 ·intro y hy z hz d KA ra
  replace hy:=bg hy;rcases hy with hy|rfl
  ·replace hz:=bg hz;rcases hz with hz|rfl
   ·exact h.dd y hy z hz d KA ra
   ·exact absurd KA ((hd.dst d ra).1 y hy).1
  ·replace hz:=bg hz;rcases hz with hz|rfl
   ·exact absurd ra ((hd.dst d KA).1 z hz).1
   ·rfl
 ·intro y hy AW o' nJ
  replace hy:=bg hy;rcases hy with hy|rfl
  ·exact h.kl y hy AW o' nJ
  ·rw[he]at AW;cases AW
 ·intro y hy z hz e
  replace hy:=bg hy;rcases hy with hy|rfl
  ·replace hz:=bg hz;rcases hz with hz|rfl
   ·exact h.uniq y hy z hz e
   ·exact absurd e (hd.ne y hy)
  ·replace hz:=bg hz;rcases hz with hz|rfl
   ·exact absurd e.symm (hd.ne z hz)
   ·rfl
 ·intro y hy o' nJ j hj
  replace hy:=bg hy;rcases hy with hy|rfl
  ·exact h.tQ y hy o' nJ j hj
  ·rw[hd.ho]at nJ;cases nJ;exact(hd.pred j hj).1
 ·intro i oi uC zD j hj
  rw[dM l3]at zD ⊢
  by_cases e:x.i=i
  ·subst e
   rw[hd.ho]at uC;cases uC
   obtain⟨h1,h2⟩:=XK j hj
   exact⟨h1,by split<;>simp[h2]⟩
  ·rw[if_neg e]at zD
   obtain⟨h1,h2⟩:=h.closed i oi uC zD j hj
   exact⟨h1,by split<;>simp[h2]⟩
 ·intro i zD
  rw[dM l3]at zD
  by_cases e:x.i=i
  ·exact⟨x,by simp,e⟩
  ·rw[if_neg e]at zD
   obtain⟨y,hy,e⟩:=h.sub i zD
   exact⟨y,by simp[hy],e⟩
 ·intro y hy AW
  rw[dM l3]
  split
  ·rfl
  ·rename_i bQ
   replace hy:=bg hy;rcases hy with hy|rfl
   ·exact h.rZ y hy AW
   ·exact absurd rfl bQ
 ·intro u hu ey
  rw[rX _ _ _ _ Y1]
  split
  ·rename_i e;rw[e,jw];exact hv
  ·rename_i e
   rw[cF e]
   exact(h.vQ u hu fun y hy qH=>ey y (by simp[hy]) (by rw[dM l3,if_neg (Ne.symm (hd.ne y hy))];exact qH)).mono le
 ·intro y hy qH
  rw[dM l3]at qH
  split at qH
  ·cases qH
  ·rename_i bQ
   replace hy:=bg hy;rcases hy with hy|rfl
   ·obtain⟨oz,_,_,Y5⟩:=h.cmp y hy
    obtain⟨t1,t2,_⟩:=iv Y5
    exact(h.fV y hy qH).mono (fun u hu=>CC y hy qH u (t1 u hu)) (fun u hu=>CC y hy qH u (t2 u hu)) (DK y hy) (hs y hy qH) (fun k z _ hz Kz hn _=>fr.2 k z hz Kz hn)
   ·exact absurd rfl bQ
 ·intro y hy z hz qH xA bQ k hk lr
  rw[dM l3]at qH xA
  split at qH
  ·cases qH
  ·split at xA
   ·cases xA
   ·rename_i hn1 DI
    replace hy:=bg hy;rcases hy with hy|rfl
    ·replace hz:=bg hz;rcases hz with hz|rfl
     ·rw[iT (DK y hy)]at hk
      rw[iT (DK z hz)]at lr
      exact h.inj y hy z hz qH xA bQ k hk lr
     ·exact absurd rfl DI
    ·exact absurd rfl hn1
theorem Dr.init (sr:SR w0 g H w)(hn:a.tmps.size=n)(xf:R n=mk)(hr:∀t,t<n→VR g w (R t) (a.tmps.getD t undef))(le:Le g0 ws g w)(fr:Fr g0 H0 g H):Dr P n ops mu w0 a.defers mk g0 ws H0 [] (Array.replicate ops.size false) g R H a w:=by
 have hf:∀i,(Array.replicate ops.size false).getD i false=false:=fun i=>by
  rw[Array.getD_eq_getD_getElem?,Array.getElem?_replicate];split<;>rfl
 refine { zC:=by simp,cmp:=(by simp),rd:=(by simp),dd:=(by simp),kl:=(by simp),uniq:=(by simp),tQ:=(by simp),closed:=fun i o _ h=>?_,sub:=fun i h=>?_,rZ:=(by simp),sr:=sr,le:=le,fr:=fr,xg:=hn,vQ:=fun t ht _=>hr t ht,fV:=(by simp),inj:=(by simp),MS:=rfl,MT:=xf }
 ·rw[hf]at h;cases h
 ·rw[hf]at h;cases h
end
section
variable {P:Program} {w0 w:World} {g:Ctx} {H H':af} {R:aw} {a:Act} {n:Nat} {ops:Array Oper}
def lz:Bo→Bool
 | .om _ _ _ _=>true
 | _=>false
theorem iU {b:Bo}(h:lz b=false){neg:Bool}{c:JA}{x y:X}:b≠.om neg c x y:=by rintro rfl;cases h
theorem EO {ty:TypeId}{x:X}{b:Bo}(h:uq P ty x=some b):lz b=false:=by
 unfold uq at h;(repeat' split at h)<;>cases h<;>rfl
theorem uD {ty:TypeId}{x:X}{f:Nat}{ad:Bool}{b:Bo}(h:nL P ty x f ad=some b):lz b=false:=by
 unfold nL at h;(repeat' split at h)<;>cases h<;>rfl
theorem AX {ty:TypeId}{x i:X}{ad:Bool}{b:Bo}(h:zs P ty x i ad=some b):lz b=false:=by
 unfold zs at h;(repeat' split at h)<;>first|(cases h<;>rfl)|(simp only[Option.map_eq_some_iff]at h;obtain⟨_,_,h⟩:=h;cases h;rfl)
theorem CE {ty:TypeId}{x:X}{lo hi mx:Option X}{b:Bo}(h:pK P ty x lo hi mx=some b):lz b=false:=by
 unfold pK at h;(repeat' split at h)<;>cases h<;>rfl
theorem EP {src dst:TypeId}{x:X}{b:Bo}(h:ur P src dst x=some b):lz b=false:=by
 unfold ur at h;(repeat' split at h)<;>cases h<;>rfl
theorem zE {mu:Bool}{jt:List TypeId}{as:List X}{b:Bo}(h:mG P mu jt as=some b):lz b=false:=by
 unfold mG at h;(repeat' split at h)<;>cases h<;>rfl
theorem KB {jt:List TypeId}{as:List X}{b:Bo}(h:xC P jt as=some b):lz b=false:=by
 unfold xC at h;(repeat' split at h)<;>cases h<;>rfl
theorem xN {mu:Bool}{bt:Builtin}{jt:List TypeId}{as:List X}{b:Bo}(h:jW P mu bt jt as=some b):lz b=false:=by
 unfold jW at h
 split at h
 ·split at h
  ·rename_i b' hz;cases h;exact KB hz
  ·exact zE h
 all_goals (repeat' split at h)<;>first|(cases h<;>rfl)|(simp only[Option.map_eq_some_iff]at h;obtain⟨_,_,h⟩:=h;cases h;rfl)
theorem CF {ty:TypeId}{ps:List (Nat×X)}{b:Bo}(h:pL P ty ps=some b):lz b=false:=by
 unfold pL at h;(repeat' split at h)<;>cases h<;>rfl
theorem KC {mu:Bool}{ty:TypeId}{n:Nat}{ps:List (Nat×X)}{b:Bo}(h:Cu P mu ty n ps=some b):lz b=false:=by
 cases mu<;>unfold Cu at h<;>(repeat' split at h)<;>cases h<;>rfl
theorem KD {mu:Bool}{ty:TypeId}{l c:X}{b:Bo}(h:Cv P mu ty l c=some b):lz b=false:=by
 unfold Cv at h;(repeat' split at h)<;>cases h<;>rfl
theorem zF {mu:Bool}{op:Op}{neg:Bool}{x y:X}(h:bM P mu op=some (.om neg .slice x y)) :
  ∃Sn ty ox oy yt e,op=.binOp Sn ty ox oy yt∧aO ox=some x∧aO oy=some y∧P.underlying ty=some (.slice e)∧Sn=(if neg then .neq else .eql):=by
 cases op<;>simp only[bM,Option.map_eq_some_iff,Option.bind_eq_some_iff]at h
 case binOp Sn ty ox oy yt =>
  cases h1:aO ox with
  | none=>simp[h1]at h
  | some x'=>cases h2:aO oy with
   | none=>simp[h1,h2]at h
   | some y' =>
    simp only[h1,h2]at h
    unfold EB at h
    split at h
    ·cases h
    ·cases h
    ·simp only[Option.map_eq_some_iff]at h;obtain⟨_,_,h⟩:=h;cases h
    ·split at h
     ·split at h<;>cases h
     ·cases h
    ·rename_i d _ _ _ _ hu
     split at h
     ·rename_i n' c hn lN
      cases h
      refine⟨Sn,ty,ox,oy,yt,?_⟩
      cases d<;>simp[cls]at lN
      exact⟨_,rfl,h1,h2,hu,by cases Sn<;>simp[isEq]at hn<;>subst hn<;>rfl⟩
     ·cases h
    ·cases h
 case load=>obtain⟨_,_,h⟩:=h;exact absurd rfl (iU (EO h))
 case fieldAddr=>obtain⟨_,_,h⟩:=h;exact absurd rfl (iU (uD h))
 case field=>obtain⟨_,_,h⟩:=h;exact absurd rfl (iU (uD h))
 case indexAddr=>split at h;exact absurd rfl (iU (AX h));cases h
 case index=>split at h;exact absurd rfl (iU (AX h));cases h
 case slice=>split at h;exact absurd rfl (iU (CE h));cases h
 case convert=>obtain⟨_,_,h⟩:=h;exact absurd rfl (iU (EP h))
 case build=>obtain⟨_,_,h⟩:=h;exact absurd rfl (iU (CF h))
 case buildSlice=>obtain⟨_,_,h⟩:=h;exact absurd rfl (iU (KC h))
 case makeSlice=>split at h;exact absurd rfl (iU (KD h));cases h
 case call c =>
  obtain⟨callee,args,jt⟩:=c
  cases callee
  case builtin=>simp only[bM,Option.bind_eq_some_iff]at h;obtain⟨_,_,h⟩:=h;exact absurd rfl (iU (xN h))
  case value cv =>
   cases cv<;>simp only[bM]at h<;>(try (cases h;done))
   split at h<;>cases h
  all_goals simp[bM]at h
 case makeMap t r=>cases r<;>simp[bM]at h
 case next it str=>cases str<;>simp[bM]at h
 case range ty m=>split at h;(simp only[Option.map_eq_some_iff]at h;obtain⟨_,_,h⟩:=h;cases h);cases h
 case makeFunc f first lP =>
  cases f<;>simp only[bM]at h
  case func f =>
   split at h
   ·simp only[Option.map_eq_some_iff]at h;obtain⟨_,_,h⟩:=h;cases h
   ·cases h
  all_goals cases h
 all_goals first
  | (cases h;done)
  | (obtain⟨_,_,h⟩:=h;cases h;done)
  | ((repeat' split at h)<;>first|(cases h;done)|(simp only[Option.map_eq_some_iff]at h;obtain⟨_,_,h⟩:=h;cases h;done))
  | (simp only[Option.map_eq_some_iff]at h;obtain⟨_,_,h⟩:=h;cases h)
  | skip
theorem CG {ty e:TypeId}{ox oy:Operand}{ad:Option Addr}{l p:Nat}{neg:Bool}(hu:P.underlying ty=some (.slice e)) :
  (do eqGuard (if neg then .neq else .eql) ty ox oy (.slice ad l p) (.slice none 0 0);binOp (if neg then .neq else .eql) ty (.slice ad l p) (.slice none 0 0)).run P w=.ok (.bool (if neg then !ad.isNone else ad.isNone)) w:=by
 have k1:∀op,(eqGuard op ty ox oy (.slice ad l p) (.slice none 0 0)).run P w=.ok () w:=fun op=>xp
 have k2:(Op.equal ty (.slice ad l p) (.slice none 0 0)).run P w=.ok ad.isNone w:=gH fun n=>by
  rw[Op.equalIn];simp only[Sem.run_bind,run_underlying hu,Result.andThen_ok]
  cases ad<;>simp_all
 have k3:∀neg:Bool,(binOp (if neg then .neq else .eql) ty (.slice ad l p) (.slice none 0 0)).run P w=((Op.equal ty (.slice ad l p) (.slice none 0 0)).run P w).andThen fun b w'=>.ok (.bool (if neg then !b else b)) w':=fun neg=>by cases neg<;>simp[binOp]
 simp only[Sem.run_bind,k1,Result.andThen_ok,k3,k2]
theorem CH {r:Option Nat}{mu:Bool}{o:Oper}{neg:Bool}{x y:X}(hc:bV P mu o.op=some (.b (.om neg .slice x y)))(hr:ir g w R a (fz o.op.operands.toList))
  (hx:x.ev R=.sl .arg []) (hy:y.ev R=.sl .nil []):∃b:Bool,∀(K:Act→World→Prop) (Q:Exit→Act→World→Prop),K (a.put o.dst (.bool b)) w→o.wpIn (Fw r) 0 P a w K Q:=by
 have fh:=iE hc
 obtain⟨Sn,ty,ox,oy,yt,e,ho,h1,h2,hu,rfl⟩:=zF (jX hc)
 have hrv:=uB hr
 have v1:=hrv ox (by rw[ho];simp[Op.operands]) x h1
 have v2:=hrv oy (by rw[ho];simp[Op.operands]) y h2
 rw[hx]at v1
 rw[hy]at v2
 generalize h3:a.eval ox=vx at v1
 generalize h4:a.eval oy=vy at v2
 have e2:vy=.slice none 0 0:=by
  cases v2 with
  | slnil=>rfl
  | sl cZ hk=>exact hk.elim
 subst e2
 obtain⟨ad,l,p,rfl⟩:∃ad l p,vx=.slice ad l p:=by cases v1<;>exact⟨_,_,_,rfl⟩
 refine⟨if neg then !ad.isNone else ad.isNone,fun K Q hk=>⟨fun _ _=>trivial,?_⟩⟩
 rw[Oper.semAt_eq _ _ _ fh]
 have cA:(execOp a.eval o).run P w=.ok (.value (.bool (if neg then !ad.isNone else ad.isNone))) w:=by
  have:=CG (P:=P) (w:=w) (ox:=ox) (oy:=oy) (ad:=ad) (l:=l) (p:=p) (neg:=neg) hu
  simp only[execOp,ho,h3,h4]
  rw[Sem.run_bind,this]
  rfl
 rw[cA]
 exact hk
end
def iV (g:Ctx)(w:World)(n:Nat)(R:aw)(a:Act):Prop:=a.tmps.size=n∧∀t,t<n→VR g w (R t) (a.tmps.getD t undef)
def tR:Exit→Option Ex
 | .normal=>some .normal
 | .exit id=>some (.exit id)
 | .ret=>some .ret
 | _=>none
def zG (w0:World)(n:Nat)(df:List Deferred)(mk:T)(g:Ctx)(w:World)(H:af)(Q:Out→af→Prop):Exit→Act→World→Prop:=fun e a' w' =>
 ∃ex R' g' H',tR e=some ex∧Q (.ex ex R') H'∧Le g w g' w'∧SR w0 g' H' w'∧iV g' w' n R' a'∧Fr g H g' H'∧a'.defers=df∧R' n=mk
def uE (w0:World)(g:Ctx)(w:World)(H:af)(Q:T→af→Prop):Ending→World→Prop:=fun e w' =>
 ∃v t g' H',e=.returned v∧Q t H'∧Le g w g' w'∧SR w0 g' H' w'∧VR g' w' t v∧Fr g H g' H'
structure AY (P:Program)(E:Env):Prop where
 mixed:P.follows .mixedOrders=true
 fn:∀f fn,E.fn f=some fn→∃an,ak P an f=some fn
 px:∀f as H Q,E.px f as H Q→∀w0 g w args,SR w0 g H w→bL g w as args→dL P f=true∧CallsIn (Fw none) 0 P f args.toArray w (uE w0 g w H Q)
inductive xO (g:Ctx):List T→List Deferred→Prop
 | nil:xO g [] []
 | cons {b r o q ts df} (h:g.φ b=some (r,o,q)) (hs:xO g ts df):xO g (.ptr b 0 :: ts) ({ target:=.collected r,args:=#[] } :: df)
theorem xO.mono {g g':Ctx}{w w':World}(le:Le g w g' w'){ts:List T}{df:List Deferred}(h:xO g ts df):xO g' ts df:=by
 induction h with
 | nil=>exact .nil
 | cons h _ ih=>exact .cons (le.φ _ _ h) ih
def Mk (g:Ctx)(t:T)(df:List Deferred):Prop:=∃ts,t=.bJ ts∧xO g ts df
theorem Mk.mono {g g':Ctx}{w w':World}(le:Le g w g' w'){t:T}{df:List Deferred}(h:Mk g t df):Mk g' t df:=let ⟨ts,e,h⟩:=h;⟨ts,e,h.mono le⟩
def l9 (w0:World)(n:Nat)(hr:Bool)(df:List Deferred)(mk:T)(g:Ctx)(w:World)(H:af)(Q:Out→af→Prop):Exit→Act→World→Prop:=fun e a' w' =>
 ∃ex R' g' H',tR e=some ex∧Q (.ex ex R') H'∧Le g w g' w'∧SR w0 g' H' w'∧iV g' w' n R' a'∧Fr g H g' H'∧(Mk g mk df→Mk g' (R' n) a'.defers)∧(hr=false→R' n=mk∧a'.defers=df)
def gM (P:Program)(g:Ctx):Prop:=∀n c k,g.ck n c k↔∃an,bG P n an false k=some c
theorem gM.mono {P:Program}{g g':Ctx}{w w':World}(le:Le g w g' w')(h:gM P g):gM P g':=fun n c k=>by rw[le.ck];exact h n c k
def sd (F:Fence)(n:Nat)(P:Program)(c:Code)(Q:Exit→Act→World→Prop)(a:Act)(w:World):Prop :=
 ∀(b:Frame) (k:List Item) (cs:List Frame),b.roundOf=F.round→F.fn b.fn→F.room (cs.length+1+n) →
  ∃e a' w',Q e a' w'∧ArrivesIn (Machine.fenced P F) P (lone (b.atR a (.code c :: .inLoop c :: k)) cs w) b k cs e a' w'
theorem xP {F:Fence}{n:Nat}{P:Program}{c:Code}{Q:Exit→Act→World→Prop}{a:Act}{w:World}(h:c.wpIn F n P (Exit.then (sd F n P c Q) Q) a w):sd F n P c Q a w:=by
 intro b k cs XR hb hr
 obtain⟨e,a₁,w₁,hq,oI⟩:=h b (.inLoop c :: k) cs XR hb hr
 cases e with
 | normal =>
  obtain⟨e₂,a₂,w₂,hq₂,Ty⟩:=hq b k cs XR hb hr
  exact⟨e₂,a₂,w₂,hq₂,.of_steps (StepsIn.trans oI (.one (fenced_calm hb hr rfl) stepR_inLoop)) Ty⟩
 | exit id=>exact⟨_,a₁,w₁,hq,.pass (x:=.inLoop c) rfl (fun _ _=>.inl (by simp)) oI⟩
 | goto l=>exact⟨_,a₁,w₁,hq,.pass (x:=.inLoop c) rfl (fun _ _=>.inl (by simp)) oI⟩
 | ret=>exact⟨_,a₁,w₁,hq,.pass (x:=.inLoop c) rfl (fun _ _=>.inl (by simp)) oI⟩
 | panic ch=>exact⟨_,a₁,w₁,hq,.pass (x:=.inLoop c) rfl (fun _ _=>.inl (by simp)) oI⟩
 | outgrown=>exact⟨_,a₁,w₁,hq,.pass (x:=.inLoop c) rfl (fun _ _=>.inl (by simp)) oI⟩
theorem CI {F:Fence}{n:Nat}{P:Program}{c:Code}{Q:Exit→Act→World→Prop}{a:Act}{w:World}(h:sd F n P c Q a w):(Code.loop c).wpIn F n P Q a w :=
 fun b k cs XR hb hr=>let ⟨e,a',w',hq,oI⟩:=h b k cs XR hb hr;⟨e,a',w',hq,.of_steps (.one (fenced_calm hb hr rfl) stepR_loop) oI⟩
section
variable {P:Program} {w0 w ws:World} {g g0:Ctx} {H H0 H':af} {R:aw} {a:Act} {n:Nat} {ops:Array Oper} {r:Option Nat} {mu:Bool} {i:Nat} {o:Oper} {st KE:List Rd}
theorem qx {y:O}(hc:fZ P n ops mu o st=some y):∀t∈tmpsOf o y.op y.g,t<n:=by
 obtain⟨op,gd,_,_,rfl,h,_⟩:=bC hc;exact h
theorem AZ {d:Option Nat}{op:MH}{gd:Gd}(ho:ops[i]?=some o)(hc:fZ P n ops mu o st=some ⟨d,op,gd,KE⟩)(hn:a.tmps.size=n)(hr:ir g w R a (tmpsOf o op gd))(hw:bU R gd=false)
  {K:Act→World→Prop} {Q:Exit→Act→World→Prop} (hk:K (a.put d undef) w):wpOpIn (Fw r) 0 P ops Q i K a w:=by
 obtain⟨OP,OQ,h1,h2,h3,h4,h5⟩:=bC hc
 cases h3
 unfold wpOpIn
 simp only[ho,pU h2 hn (fun t ht=>h4 t (by simp[tmpsOf,ht])) (hr.sub fun t ht=>by simp[tmpsOf,ht]),hw]
 exact⟨fun _ _=>trivial,hk⟩
theorem iG {d:Option Nat}{op:MH}{gd:Gd}(ho:ops[i]?=some o)(hc:fZ P n ops mu o st=some ⟨d,op,gd,KE⟩)(hn:a.tmps.size=n)(hr:ir g w R a (tmpsOf o op gd))(hw:bU R gd=true)
  {K:Act→World→Prop} {Q:Exit→Act→World→Prop} (hk:o.wpIn (Fw r) 0 P a w K Q):wpOpIn (Fw r) 0 P ops Q i K a w:=by
 obtain⟨OP,OQ,h1,h2,h3,h4,h5⟩:=bC hc
 cases h3
 unfold wpOpIn
 simp only[ho,pU h2 hn (fun t ht=>h4 t (by simp[tmpsOf,ht])) (hr.sub fun t ht=>by simp[tmpsOf,ht]),hw,if_true]
 exact hk
theorem mM {op:MH}{gd:Gd}(hr:ir g w R a (tmpsOf o op gd)):ir g w R a (fz o.op.operands.toList):=hr.sub fun t ht=>by simp[tmpsOf,ht]
theorem A0 {d:Option Nat}{b:Bo}{gd:Gd}{t:T}(ho:ops[i]?=some o)(hc:fZ P n ops mu o st=some ⟨d,.b b,gd,KE⟩)(hn:a.tmps.size=n)(hr:ir g w R a (tmpsOf o (.b b) gd))(hw:bU R gd=true)
  (h:SR w0 g H w) (he:aq R H b=some (t,H')) :
  ∃v w' g',(∀(K:Act→World→Prop) (Q:Exit→Act→World→Prop),K (a.put d v) w'→wpOpIn (Fw r) 0 P ops Q i K a w)∧Le g w g' w'∧SR w0 g' H' w'∧VR g' w' t v∧Fr g H g' H':=by
 obtain⟨OP,OQ,h1,h2,h3,h4,h5⟩:=bC hc
 cases h3
 obtain⟨v,w',g',hs,rest⟩:=EJ (r:=r) h1 h (mM hr) he
 exact⟨v,w',g',fun K Q hk=>iG ho hc hn hr hw (hs K Q hk),rest⟩
theorem xQ {d:Option Nat}{x:X}{gd:Gd}{b bi:Nat}{es:List (T×T)}{ix:List Nat}{cur:Option Nat}(ho:ops[i]?=some o)(hc:fZ P n ops mu o st=some ⟨d,.b (.qU x),gd,KE⟩)(hn:a.tmps.size=n)(hr:ir g w R a (tmpsOf o (.b (.qU x)) gd))(hw:bU R gd=true)
  (h:SR w0 g H w) (hx:x.ev R=.ptr bi 0) (hb:H[b]?=some (.cY es ix bi cur)) :
  ∃t H' v w' g',ov H b bi es ix t H'∧(∀(K:Act→World→Prop) (Q:Exit→Act→World→Prop),K (a.put d v) w'→wpOpIn (Fw r) 0 P ops Q i K a w)∧Le g w g' w'∧SR w0 g' H' w'∧VR g' w' t v∧Fr g H g' H':=by
 obtain⟨OP,OQ,h1,h2,h3,h4,h5⟩:=bC hc
 cases h3
 obtain⟨t,H',v,w',g',Kz,hs,rest⟩:=EK (r:=r) h1 h (mM hr) hx hb
 exact⟨t,H',v,w',g',Kz,fun K Q hk=>iG ho hc hn hr hw (hs K Q hk),rest⟩
theorem uF {d:Option Nat}{neg:Bool}{x y:X}{gd:Gd}(ho:ops[i]?=some o)(hc:fZ P n ops mu o st=some ⟨d,.b (.om neg .slice x y),gd,KE⟩)(hn:a.tmps.size=n)(hr:ir g w R a (tmpsOf o (.b (.om neg .slice x y)) gd))(hw:bU R gd=true)
  (hx:x.ev R=.sl .arg []) (hy:y.ev R=.sl .nil []):∃b:Bool,∀(K:Act→World→Prop) (Q:Exit→Act→World→Prop),K (a.put d (.bool b)) w→wpOpIn (Fw r) 0 P ops Q i K a w:=by
 obtain⟨OP,OQ,h1,h2,h3,h4,h5⟩:=bC hc
 cases h3
 obtain⟨b,hs⟩:=CH (r:=r) h1 (mM hr) hx hy
 exact⟨b,fun K Q hk=>iG ho hc hn hr hw (hs K Q hk)⟩
theorem uG {d:Option Nat}{f:Nat}{as:List X}{gd:Gd}{M:T→af→Prop}(ho:ops[i]?=some o)(hc:fZ P n ops mu o st=some ⟨d,.call f as,gd,KE⟩)(hn:a.tmps.size=n)(hr:ir g w R a (tmpsOf o (.call f as) gd))(hw:bU R gd=true)
  (ih:∀args,bL g w (as.map (X.ev R)) args→dL P f=true∧CallsIn (Fw none) 0 P f args.toArray w (uE w0 g w H M)) {K:Act→World→Prop} {Q:Exit→Act→World→Prop}
  (hk:∀v w' g' H' t,M t H'→Le g w g' w'→SR w0 g' H' w'→VR g' w' t v→Fr g H g' H'→K (a.put d v) w'):wpOpIn (Fw r) 0 P ops Q i K a w:=by
 obtain⟨OP,OQ,h1,h2,h3,h4,h5⟩:=bC hc
 cases h3
 obtain⟨args,hv,hs⟩:=CA (r:=r) h1 (mM hr)
 obtain⟨k1,k2⟩:=ih args hv
 exact iG ho hc hn hr hw (hs K Q k1 (k2.mono fun e w' ⟨v,t,g',H',he,hM,le,sr,gl,fr⟩=>⟨v,he,hk v w' g' H' t hM le sr gl fr⟩))
theorem sf {d:Option Nat}{x:X}{f:Nat}{cs:List T}{as:List X}{gd:Gd}{M:T→af→Prop}(ho:ops[i]?=some o)(hc:fZ P n ops mu o st=some ⟨d,.bF x as,gd,KE⟩)(hn:a.tmps.size=n)(hr:ir g w R a (tmpsOf o (.bF x as) gd))(hw:bU R gd=true)
  (hx:x.ev R=.fn f cs) (ih:∀args,bL g w (as.map (X.ev R)++cs) args→dL P f=true∧CallsIn (Fw none) 0 P f args.toArray w (uE w0 g w H M)) {K:Act→World→Prop} {Q:Exit→Act→World→Prop}
  (hk:∀v w' g' H' t,M t H'→Le g w g' w'→SR w0 g' H' w'→VR g' w' t v→Fr g H g' H'→K (a.put d v) w'):wpOpIn (Fw r) 0 P ops Q i K a w:=by
 obtain⟨OP,OQ,h1,h2,h3,h4,h5⟩:=bC hc
 cases h3
 obtain⟨args,hv,hs⟩:=zB (r:=r) h1 (mM hr) hx
 obtain⟨k1,k2⟩:=ih args hv
 exact iG ho hc hn hr hw (hs K Q k1 (k2.mono fun e w' ⟨v,t,g',H',he,hM,le,sr,gl,fr⟩=>⟨v,he,hk v w' g' H' t hM le sr gl fr⟩))
theorem iV.put {d:Option Nat}{v:Value}{t:T}{w':World}{g':Ctx}(h:iV g w n R a)(hd:∀e,d=some e→e<n)(le:Le g w g' w')(hv:VR g' w' t v):iV g' w' n (bE R d t) (a.put d v):=by
 refine⟨by rw[rY];exact h.1,fun u hu=>?_⟩
 rw[rX _ _ _ _ (by rw[h.1];exact hd)]
 split
 ·rename_i e;rw[e,jw];exact hv
 ·rename_i e;rw[cF e];exact(h.2 u hu).mono le
theorem iV.rg (h:iV g w n R a){ts:List Nat}(ht:∀t∈ts,t<n):ir g w R a ts:=fun t hm=>h.2 t (ht t hm)
end
section
variable {P:Program} {n:Nat} {ops:Array Oper} {mu:Nat→Bool} {w0 ws:World} {df:List Deferred} {mk:T} {g0:Ctx} {H0:af} {pre:List It} {r:Option Nat} {x:It} {o:Oper} {Q:Out→af→Prop}
def left (L:Array Bool):Nat:=L.toList.count false
theorem sg {L:Array Bool}{i:Nat}(hi:i<L.size)(hf:L.getD i false=false):left (L.setIfInBounds i true)+1=left L:=by
 unfold left
 rw[Array.toList_setIfInBounds,List.count_set (by simpa using hi)]
 have hg:L.toList[i]'(by simpa using hi)=false:=by
  rw[Array.getD_eq_getD_getElem?,Array.getElem?_eq_getElem hi,Option.getD_some]at hf
  simpa using hf
 have OB:0<L.toList.count false:=List.count_pos_iff.2 (hg▸List.getElem_mem _)
 rw[hg]
 have e1:((false==false:Bool)=true):=rfl
 have e2:¬((true==false:Bool)=true):=by decide
 rw[if_pos e1,if_neg e2]
 omega
theorem uH {L:Array Bool}(h:left L=0){i:Nat}(hi:i<L.size):L.getD i false=true:=by
 cases e:L.getD i false with
 | true=>rfl
 | false=>have:=sg hi e;omega
theorem uI {L:Array Bool}(a7:L.size=ops.size)(OG:∀i o,ops[i]?=some o→∀j∈cE o,j<i)(h:Region.ready .any ops L=[]):∀i,i<ops.size→L.getD i false=true:=by
 intro i
 induction i using Nat.strongRecOn with
 | _ i ih =>
  intro hi
  cases e:L.getD i false with
  | true=>rfl
  | false =>
   have:i∈Region.ready .any ops L:=by
    rw[mem_ready]
    refine⟨?_,ops[i],Array.getElem?_eq_getElem hi,fun ed he hb=>?_⟩
    ·have kD:i<L.size:=by omega
     rw[Array.getD_eq_getD_getElem?,Array.getElem?_eq_getElem kD]at e ⊢;exact e
    ·have hj:ed.on∈cE ops[i]:=by simp only[cE,List.mem_map,List.mem_filter];exact⟨ed,⟨by simpa using he,hb⟩,rfl⟩
     have:=OG i _ (Array.getElem?_eq_getElem hi) _ hj
     exact ih _ this (by omega)
   rw[h]at this;cases this
theorem CJ {R:aw}{H:af}(bB:∀i,i<ops.size→∃y∈pre,y.i=i)(hQ:Q (.ex .normal R) H):∀(fuel:Nat) (L:Array Bool) (g:Ctx) (a:Act) (w:World),left L≤fuel→Dr P n ops mu w0 df mk g0 ws H0 pre L g R H a w →
  wpAnyIn (Fw r) 0 P .any ops (zG w0 n df mk g0 ws H0 Q) fuel L a w:=by
 have fin:∀(L:Array Bool) (g:Ctx) (a:Act) (w:World),Dr P n ops mu w0 df mk g0 ws H0 pre L g R H a w→(∀i,i<ops.size→L.getD i false=true)→zG w0 n df mk g0 ws H0 Q .normal a w:=by
  intro L g a w h hl
  refine⟨.normal,R,g,H,rfl,hQ,h.le,h.sr,⟨h.xg,fun t ht=>h.vQ t ht fun y hy hu=>?_⟩,h.fr,h.MS,h.MT⟩
  obtain⟨o,ho,_⟩:=h.cmp y hy
  rw[hl y.i (Array.getElem?_eq_some_iff.1 ho).1]at hu;cases hu
 have OG:∀(L:Array Bool) (g:Ctx) (a:Act) (w:World),Dr P n ops mu w0 df mk g0 ws H0 pre L g R H a w→∀i o,ops[i]?=some o→∀j∈cE o,j<i:=by
  intro L g a w h i o ho
  obtain⟨y,hy,rfl⟩:=bB i (Array.getElem?_eq_some_iff.1 ho).1
  exact h.tQ y hy o ho
 intro fuel
 induction fuel with
 | zero =>
  intro L g a w hL h
  have hl:∀i,i<ops.size→L.getD i false=true:=fun i hi=>uH (by omega) (by rw[h.zC];exact hi)
  refine⟨?_,fin L g a w h hl⟩
  refine List.eq_nil_iff_forall_not_mem.2 fun i hi=>?_
  obtain⟨h1,o,h2,_⟩:=mJ hi
  rw[hl i (Array.getElem?_eq_some_iff.1 h2).1]at h1;cases h1
 | succ fuel ih =>
  intro L g a w hL h
  refine⟨fun hr=>fin L g a w h (uI h.zC (OG L g a w h) hr),fun i hi=>?_⟩
  obtain⟨h1,o,h2,_⟩:=mJ hi
  have al:=(Array.getElem?_eq_some_iff.1 h2).1
  obtain⟨y,hy,rfl⟩:=bB i al
  obtain⟨v,w',g',hs,hd⟩:=h.late (r:=r) hy hi
  have:=sg (by rw[h.zC];exact al) h1
  exact hs _ _ (ih _ _ _ _ (by omega) hd)
theorem fA {R:aw}{H:af}{Tl:aw→af→Prop}{Qx:Exit→Act→World→Prop}{l:List It}(hd:Hd P n ops mu pre x o)(hx:x.early=false)(bB:∀i,i<ops.size→∃y∈pre++x :: l,y.i=i)
  (Tz:∀y∈l,(∃o,ops[y.i]?=some o∧(∀j∈cE o,j<y.i))∧∀z∈pre++[x],z.early=true∨((fq ops.toList []).getD y.i 0).testBit z.i=true)
  (hT:∀R' H',Tl R' H'→∀fuel L' g' a' w',left L'≤fuel→Dr P n ops mu w0 df mk g0 ws H0 (pre++[x]) L' g' R' H' a' w'→wpAnyIn (Fw r) 0 P .any ops Qx fuel L' a' w')
  (hX:∀L g a w,Dr P n ops mu w0 df mk g0 ws H0 pre L g R H a w→(∀j∈cE o,L.getD j false=true)→∀K:Act→World→Prop,
   (∀R' H' g' a' w',Tl R' H'→Dr P n ops mu w0 df mk g0 ws H0 (pre++[x]) (L.setIfInBounds x.i true) g' R' H' a' w'→K a' w')→wpOpIn (Fw r) 0 P ops Qx x.i K a w) :
  ∀(fuel:Nat) (L:Array Bool) (g:Ctx) (a:Act) (w:World),left L≤fuel→Dr P n ops mu w0 df mk g0 ws H0 pre L g R H a w→wpAnyIn (Fw r) 0 P .any ops Qx fuel L a w:=by
 have Jg:x.i<ops.size:=(Array.getElem?_eq_some_iff.1 hd.ho).1
 intro fuel
 induction fuel with
 | zero =>
  intro L g a w hL h
  have h1:=h.nN hd
  rw[uH (by omega) (by rw[h.zC];exact Jg)]at h1;cases h1
 | succ fuel ih =>
  intro L g a w hL h
  have Ed:=h.nN hd
  refine⟨fun hr=>?_,fun i hi=>?_⟩
  ·have hl:=uI h.zC (fun i o' nJ j hj=>?_) hr x.i Jg
   ·rw[hl]at Ed;cases Ed
   ·obtain⟨y,hy,rfl⟩:=bB i (Array.getElem?_eq_some_iff.1 nJ).1
    rcases List.mem_append.1 hy with hy|hy
    ·exact h.tQ y hy o' nJ j hj
    ·rcases List.mem_cons.1 hy with rfl|hy
     ·rw[hd.ho]at nJ;cases nJ;exact(hd.pred j hj).1
     ·obtain⟨⟨o2,h2,h3⟩,_⟩:=Tz y hy
      rw[h2]at nJ;cases nJ;exact h3 j hj
  ·obtain⟨h1,o',h2,h3⟩:=mJ hi
   have al:=(Array.getElem?_eq_some_iff.1 h2).1
   have afs:=sg (by rw[h.zC];exact al) h1
   obtain⟨y,hy,rfl⟩:=bB i al
   rcases List.mem_append.1 hy with hy|hy
   ·obtain⟨v,w',g',hs,Y6⟩:=h.late (r:=r) hy hi
    exact hs _ _ (ih _ _ _ _ (by omega) Y6)
   ·rcases List.mem_cons.1 hy with rfl|hy
    ·rw[hd.ho]at h2;cases h2
     exact hX L g a w h h3 _ fun R' H' g' a' w' ht Y6=>hT R' H' ht fuel _ g' a' w' (by omega) Y6
    ·obtain⟨⟨o2,h4,h5⟩,h6⟩:=Tz y hy
     rw[h2]at h4;cases h4
     rcases h6 x (by simp)with h7|h7
     ·rw[hx]at h7;cases h7
     ·have:=h.bit h2 (fun j hj=>⟨h5 j hj,h3 j hj⟩) h7
      rw[Ed]at this;cases this
end
def Y7 (P : Program) : J → af → (Out → af → Prop) → Prop
  | .code c R, H, Q => ∀(w0 : World) (g : Ctx) (w : World) (a : Act) (n : Nat) (an : An) (top : Bool) (code : Code) (r : Option Nat), bG P n an top code = some c → (top = true → r = none) → gM P g → SR w0 g H w → iV g w n R a →
      code.wpIn (Fw r) 0 P (l9 w0 n c.na a.defers (R n) g w H Q) a w ∧ ∀body, code = .loop body → sd (Fw r) 0 P body (l9 w0 n c.na a.defers (R n) g w H Q) a w
  | .ops l R, H, Q => (∀(w0 : World) (g0 : Ctx) (ws : World) (H0 : af) (g : Ctx) (w : World) (a : Act) (n : Nat) (ops : Array Oper) (mu : Nat → Bool) (is : List Nat) (r : Option Nat), gC P n ops mu is = some l → gM P g → SR w0 g H w → iV g w n R a →
        Le g0 ws g w → Fr g0 H0 g H → wpOpsIn (Fw r) 0 P ops (zG w0 n a.defers (R n) g0 ws H0 Q) is a w) ∧
      (∀(w0 : World) (n : Nat) (ops : Array Oper) (mu : Nat → Bool) (df : List Deferred) (mk : T) (g0 : Ctx) (ws : World) (H0 : af) (pre : List It) (L : Array Bool) (g : Ctx) (a : Act) (w : World) (ord : List (Nat×Bool)) (kO : List It) (r : Option Nat) (fuel : Nat),
        gM P g → ew P n ops mu (fq ops.toList []) pre ord = some kO → kO.map (·.o) = l → Dr P n ops mu w0 df mk g0 ws H0 pre L g R H a w → left L ≤ fuel → wpAnyIn (Fw r) 0 P .any ops (zG w0 n df mk g0 ws H0 Q) fuel L a w)
  | .call f as, H, Q => ∀(w0 : World) (g : Ctx) (w : World) (args : List Value), gM P g → SR w0 g H w → bL g w as args → dL P f = true ∧ CallsIn (Fw none) 0 P f args.toArray w (uE w0 g w H fun v H' => Q (.val v) H')
theorem l9.trans {w0 w w':World}{n:Nat}{hr pt:Bool}{df Y8:List Deferred}{mk mk':T}{g g':Ctx}{H H':af}{Q:Out→af→Prop}(le:Le g w g' w')(fr:Fr g H g' H')(hm:Mk g mk df→Mk g' mk' Y8)(hh:hr=false→pt=false∧mk'=mk∧Y8=df)
  {e:Exit} {a:Act} {u:World} (h:l9 w0 n pt Y8 mk' g' w' H' Q e a u):l9 w0 n hr df mk g w H Q e a u:=by
 obtain⟨ex,R',g2,H2,h1,h2,h3,h4,h5,h6,h7,h8⟩:=h
 refine⟨ex,R',g2,H2,h1,h2,le.trans h3,h4,h5,fr.trans h6,fun m=>h7 (hm m),fun e=>?_⟩
 obtain⟨k1,k2,k3⟩:=hh e
 obtain⟨k4,k5⟩:=h8 k1
 exact⟨k4.trans k2,k5.trans k3⟩
theorem zG.toC {w0 w:World}{n:Nat}{hr:Bool}{df:List Deferred}{mk:T}{g:Ctx}{H:af}{Q:Out→af→Prop}{e:Exit}{a:Act}{u:World}(h:zG w0 n df mk g w H Q e a u):l9 w0 n hr df mk g w H Q e a u:=by
 obtain⟨ex,R',g2,H2,h1,h2,h3,h4,h5,h6,h7,h8⟩:=h
 exact⟨ex,R',g2,H2,h1,h2,h3,h4,h5,h6,fun m=>by rw[h7,h8];exact m.mono h3,fun _=>⟨h8,h7⟩⟩
section
variable {P:Program} {n:Nat} {an:An} {top:Bool} {code:Code}
theorem ER (h:bG P n an top code=some .skip):code=.skip:=by
 cases code<;>(try simp only[bG]at h)
 case region id ops draw=>cases draw<;>simp only[bG]at h<;>(repeat' split at h)<;>simp at h
 all_goals first|rfl|(cases h;done)|((repeat' split at h)<;>simp at h;done)|(simp at h;done)
theorem ES {id:Nat}(h:bG P n an top code=some (.exit id)):code=.exit id:=by
 cases code<;>(try simp only[bG]at h)
 case region id ops draw=>cases draw<;>simp only[bG]at h<;>(repeat' split at h)<;>simp at h
 all_goals first|(cases h;rfl)|(cases h;done)|((repeat' split at h)<;>simp at h;done)|(simp at h;done)
theorem KF (h:bG P n an top code=some .ret):code=.ret:=by
 cases code<;>(try simp only[bG]at h)
 case region id ops draw=>cases draw<;>simp only[bG]at h<;>(repeat' split at h)<;>simp at h
 all_goals first|rfl|(cases h;done)|((repeat' split at h)<;>simp at h;done)|(simp at h;done)
theorem KG {x y:C}(h:bG P n an top code=some (.seq x y)):∃c d,code=.seq c d∧bG P n an top c=some x∧bG P n an top d=some y:=by
 cases code<;>(try simp only[bG]at h)
 case region id ops draw=>cases draw<;>simp only[bG]at h<;>(repeat' split at h)<;>simp at h
 case seq c d =>
  split at h
  ·rename_i h1 h2;cases h;exact⟨c,d,rfl,h1,h2⟩
  ·cases h
 all_goals first|(cases h;done)|((repeat' split at h)<;>simp at h;done)|(simp at h;done)
theorem ET {c:X}{x y:C}(h:bG P n an top code=some (.cond c x y)):∃o d e,code=.cond o d e∧aO o=some c∧bG P n an top d=some x∧bG P n an top e=some y∧∀t,o=.tmp t→t<n:=by
 cases code<;>(try simp only[bG]at h)
 case region id ops draw=>cases draw<;>simp only[bG]at h<;>(repeat' split at h)<;>simp at h
 case cond o d e =>
  split at h
  ·rename_i h1 h2 h3
   cases o with
   | tmp t =>
    simp only[decide_eq_true_eq]at h
    split at h
    ·rename_i h4;cases h;exact⟨_,d,e,rfl,h1,h2,h3,fun t' ht=>by cases ht;exact h4⟩
    ·cases h
   | _=>simp at h;obtain⟨rfl,rfl,rfl⟩:=h;exact⟨_,d,e,rfl,h1,h2,h3,fun t ht=>by cases ht⟩
  ·cases h
 all_goals first|(cases h;done)|((repeat' split at h)<;>simp at h;done)|(simp at h;done)
theorem CK {id:Nat}{x:C}(h:bG P n an top code=some (.block id x)):∃c,code=.block id c∧bG P n an top c=some x:=by
 cases code<;>(try simp only[bG]at h)
 case region id ops draw=>cases draw<;>simp only[bG]at h<;>(repeat' split at h)<;>simp at h
 case block id' c =>
  simp only[Option.map_eq_some_iff]at h
  obtain⟨x',h1,h2⟩:=h
  cases h2;exact⟨c,rfl,h1⟩
 all_goals first|(cases h;done)|((repeat' split at h)<;>simp at h;done)|(simp at h;done)
theorem EU {x:C}(h:bG P n an top code=some (.loop x)):∃c,code=.loop c∧bG P n an top c=some x:=by
 cases code<;>(try simp only[bG]at h)
 case region id ops draw=>cases draw<;>simp only[bG]at h<;>(repeat' split at h)<;>simp at h
 case loop c =>
  simp only[Option.map_eq_some_iff]at h
  obtain⟨x',h1,h2⟩:=h
  cases h2;exact⟨c,rfl,h1⟩
 all_goals first|(cases h;done)|((repeat' split at h)<;>simp at h;done)|(simp at h;done)
theorem CL {m:Nat}{x:X}{ps:List Nat}{y z:C}(h:bG P n an top code=some (.cP m x ps y z)):∃g qs c d,code=.rangeFunc g qs c d∧aO g=some x∧bG P n an false c=some y∧bG P n an false d=some z∧top=true∧(∀t∈eu x,t<n)∧qs.toList=ps∧(∀p∈ps,p<n)∧m=n:=by
 cases code<;>(try simp only[bG]at h)
 case region id ops draw=>cases draw<;>simp only[bG]at h<;>(repeat' split at h)<;>simp at h
 case rangeFunc g qs c d =>
  split at h
  ·rename_i h1 h2 h3
   split at h
   ·rename_i h4
    cases h
    simp only[Bool.and_eq_true,List.all_eq_true,decide_eq_true_eq]at h4
    exact⟨g,qs,c,d,rfl,h1,h2,h3,h4.1.1,h4.1.2,rfl,h4.2,rfl⟩
   ·cases h
  ·cases h
 all_goals first|(cases h;done)|((repeat' split at h)<;>simp at h;done)|(simp at h;done)
theorem KH {l:List O}(h:bG P n an top code=some (.ops l)):∃id ops mu,(code=.region id ops false∧gC P n ops mu (List.range ops.size)=some l) ∨
  (code=.region id ops true∧∃ord kO,ew P n ops mu (fq ops.toList []) [] ord=some kO∧kO.map (·.o)=l):=by
 cases code<;>(try simp only[bG]at h)
 case region id ops draw =>
  cases draw<;>simp only[bG]at h
  ·simp only[Option.map_eq_some_iff]at h
   obtain⟨l',h1,h2⟩:=h
   cases h2;exact⟨id,ops,_,.inl ⟨rfl,h1⟩⟩
  ·split at h
   ·rename_i ord _
    simp only[Option.map_eq_some_iff]at h
    obtain⟨kO,h1,h2⟩:=h
    cases h2;exact⟨id,ops,_,.inr ⟨rfl,ord,kO,h1,rfl⟩⟩
   ·cases h
 all_goals first|(cases h;done)|((repeat' split at h)<;>simp at h;done)|(simp at h;done)
end
theorem dE {P:Program}{n:Nat}{ops:Array Oper}{mu:Nat→Bool}{is:List Nat}{o:O}{l:List O}(h:gC P n ops mu is=some (o :: l)) :
  ∃i uJ oper,is=i :: uJ∧ops[i]?=some oper∧fZ P n ops (mu i) oper []=some o∧gC P n ops mu uJ=some l:=by
 cases is with
 | nil=>simp[gC]at h
 | cons i uJ =>
  simp only[gC]at h
  split at h
  ·rename_i oper ho
   split at h
   ·rename_i h1 h2;cases h;exact⟨i,uJ,oper,rfl,ho,h1,h2⟩
   ·cases h
  ·cases h
theorem xR {P:Program}{n:Nat}{ops:Array Oper}{mu:Nat→Bool}{is:List Nat}(h:gC P n ops mu is=some []):is=[]:=by
 cases is with
 | nil=>rfl
 | cons i uJ =>
  simp only[gC]at h
  split at h
  ·split at h<;>simp at h
  ·cases h
theorem iW {P:Program}{n:Nat}{ops:Array Oper}{mu:Nat→Bool}{pre:List It}{ord:List (Nat×Bool)}{kO:List It}{o:O}{l:List O}(h:ew P n ops mu (fq ops.toList []) pre ord=some kO)(hm:kO.map (·.o)=o :: l) :
  ∃x l' gr oper,kO=x :: l'∧x.o=o∧l'.map (·.o)=l∧Hd P n ops mu pre x oper∧ew P n ops mu (fq ops.toList []) (pre++[x]) gr=some l':=by
 cases ord with
 | nil =>
  simp only[ew]at h
  split at h
  ·cases h;simp at hm
  ·cases h
 | cons y gr =>
  obtain⟨x,l',oper,rfl,h1,h2⟩:=kT h
  simp only[List.map_cons,List.cons.injEq]at hm
  exact⟨x,l',gr,oper,rfl,hm.1,hm.2,h1,h2⟩
section
variable {P:Program} {n:Nat} {ops:Array Oper} {mu:Nat→Bool} {w0 w ws:World} {df:List Deferred} {mk:T} {g g0:Ctx} {H H0 H':af} {pre:List It} {L:Array Bool} {R:aw} {a:Act} {r:Option Nat} {x:It} {o:Oper}
theorem Hd.sub (hd:Hd P n ops mu pre x o)(v:T):(∀t∈nw x.o.g,bE R x.o.d v t=R t)∧∀t∈AV x.o.op,bE R x.o.d v t=R t:=by
 obtain⟨t1,t2,_⟩:=iv hd.ts
 exact⟨fun t ht=>cF fun e=>(hd.dst t e).2 (t1 t ht),fun t ht=>cF fun e=>(hd.dst t e).2 (t2 t ht)⟩
theorem Dr.KI (h:Dr P n ops mu w0 df mk g0 ws H0 pre L g R H a w)(hd:Hd P n ops mu pre x o)(he:x.early=true)(hw:bU R x.o.g=false):Dr P n ops mu w0 df mk g0 ws H0 (pre++[x]) L g (bE R x.o.d b7) H a w:=by
 refine h.take hd he (.inl ⟨?_,fun d e=>by rw[e,jw]⟩) (.inl rfl) fun k hk=>?_
 ·rw[l8 (R':=R) (hd.sub b7).1];exact hw
 ·unfold kS at hk
  split at hk
  ·rename_i e _;rw[e,jw]at hk;cases hk
  ·rename_i e _;rw[e,jw]at hk;cases hk
  ·cases hk
theorem Dr.KJ {b:Bo}{v:T}(h:Dr P n ops mu w0 df mk g0 ws H0 pre L g R H a w)(hd:Hd P n ops mu pre x o)(he:x.early=true)(hb:x.o.op=.b b)(hw:bU R x.o.g=true)(hv:aq R H b=some (v,H')) :
  Dr P n ops mu w0 df mk g0 ws H0 (pre++[x]) L g (bE R x.o.d v) H' a w:=by
 obtain⟨k1,k2⟩:=hd.kl he
 cases DL:x.o.d with
 | none=>exact absurd (by simp[Jm,hb,DL]) k1
 | some d =>
  have TA:Jm x.o=rU b:=by simp[Jm,hb,DL]
  rw[TA]at k1 k2
  have Cp:bU (bE R x.o.d v) x.o.g=true:=by rw[l8 (R':=R) (hd.sub v).1];exact hw
  have KK:∀H2,aq (bE R x.o.d v) H2 b=aq R H2 b:=fun H2=>rW fun t ht=>(hd.sub v).2 t (by rw[hb];exact ht)
  have OS:bE R x.o.d v d=v:=by rw[DL,jw]
  rw[←DL]
  have hq:(rU b=.pure∨rU b=.read)→H'=H→Dr P n ops mu w0 df mk g0 ws H0 (pre++[x]) L g (bE R x.o.d v) H' a w:=by
   rintro hk rfl
   refine h.take hd he (.inr ⟨Cp,d,b,DL,hb,.inl ⟨hk,by rw[KK,OS];exact hv⟩⟩) (.inl rfl) fun k hm=>?_
   unfold kS at hm
   rw[hb]at hm
   split at hm
   ·rename_i h1;cases h1;simp[rU]at hk
   ·rename_i h1;cases h1;simp[rU]at hk
   ·cases hm
  cases hk:rU b with
  | OJ=>exact absurd hk k1
  | pure=>exact hq (.inl hk) (uy hk hv).1
  | read=>exact hq (.inr hk) (uz hk hv).1
  | make =>
   have hln:H0.length≤H.length:=h.fr.1
   cases b<;>simp only[rU]at hk<;>(try (cases hk;done))
   case om=>split at hk<;>cases hk
   case alloc z =>
    simp only[aq,Option.some.injEq,Prod.mk.injEq]at hv
    obtain⟨rfl,rfl⟩:=hv
    refine h.take hd he (.inr ⟨Cp,d,_,DL,hb,.inr (.inl ⟨H.length,z,rfl,OS,fM _ _,h.sr.JV (Nat.le_refl _),hln⟩)⟩) (.inr ⟨_,rfl,.inl ⟨_,rfl⟩⟩) fun k hm=>?_
    simp only[kS,DL,hb,jw,nz,Option.some.injEq]at hm
    omega
   case Az =>
    simp only[aq,Option.some.injEq,Prod.mk.injEq]at hv
    obtain⟨rfl,rfl⟩:=hv
    refine h.take hd he (.inr ⟨Cp,d,_,DL,hb,.inr (.inr ⟨H.length,rfl,OS,fM _ _,h.sr.JV (Nat.le_refl _),hln⟩)⟩) (.inr ⟨_,rfl,.inr ⟨_,rfl⟩⟩) fun k hm=>?_
    simp only[kS,DL,hb,jw,nz,Option.some.injEq]at hm
    omega
theorem Dr.fB (h:Dr P n ops mu w0 df mk g0 ws H0 pre L g R H a w)(hd:Hd P n ops mu pre x o)(hp:∀j∈cE o,L.getD j false=true):ir g w R a (tmpsOf o x.o.op x.o.g) :=
 h.look hd.ho (fun j hj=>⟨(hd.pred j hj).1,hp j hj⟩) (qx hd.co) fun z hz _ d ra ht=>hd.Y3 z hz d ra (by rw[hd.ts];exact ht)
theorem Dr.stays (h:Dr P n ops mu w0 df mk g0 ws H0 pre L g R H a w)(hd:Hd P n ops mu pre x o)(he:x.early=false)(hp:∀j∈cE o,L.getD j false=true)(hs:ky R H' x.o.B7) :
  ∀y∈pre,L.getD y.i false=false→∀d b,bU R y.o.g=true→y.o.d=some d→y.o.op=.b b→rU b=.read→aq R H b=some (R d,H)→aq R H' b=some (R d,H'):=by
 intro y hy hu d b hw KA hyb hk _
 have AW:y.early=true:=by cases e:y.early with|true=>rfl|false=>rw[h.rZ y hy e]at hu;cases hu
 have Y9:((fq ops.toList []).getD x.i 0).testBit y.i=false:=by
  cases e:((fq ops.toList []).getD x.i 0).testBit y.i with
  | false=>rfl
  | true=>rw[h.bit hd.ho (fun j hj=>⟨(hd.pred j hj).1,hp j hj⟩) e]at hu;cases hu
 have hm:=sb pre hy AW KA hyb hk Y9
 rw[←hd.st he]at hm
 exact hs _ hm hw
end
theorem xS {g:Ctx}{w:World}{n:Nat}:∀(ps:List Nat) (vs:List T) (us:List Value) (R:aw) (tmps:Array Value),bL g w vs us→vs.length=ps.length→tmps.size=n→(∀t,t<n→VR g w (R t) (tmps.getD t undef))→(∀p∈ps,p<n) →
  ((ps.zip us).foldl (fun tmps (t,a)=>tmps.setIfInBounds t a) tmps).size=n∧∀t,t<n→VR g w (jq R ps vs t) (((ps.zip us).foldl (fun tmps (t,a)=>tmps.setIfInBounds t a) tmps).getD t undef)
 | [],vs,us,R,tmps,hv,hl,hn,hr,_=>by
  cases vs with
  | nil=>exact⟨by simpa using hn,by simpa[jq]using hr⟩
  | cons _ _=>simp at hl
 | p :: ps,[],us,R,tmps,hv,hl,hn,hr,_=>by simp at hl
 | p :: ps,v :: vs,[],R,tmps,hv,hl,hn,hr,_=>by have:=hv.1;simp at this
 | p :: ps,v :: vs,u :: us,R,tmps,hv,hl,hn,hr,hp=>by
  simp only[List.zip_cons_cons,List.foldl_cons,jq]
  refine xS ps vs us (pn R p v) (tmps.setIfInBounds p u) hv.tail (by simpa using hl) (by simpa using hn) (fun t ht=>?_) (fun q hq=>hp q (by simp[hq]))
  have y7:p<tmps.size:=by rw[hn];exact hp p (by simp)
  by_cases e:p=t
  ·subst e;simp only[pn,if_true];rw[Array.getD_eq_getD_getElem?];simp[y7];exact hv.head
  ·simp only[pn];rw[if_neg (Ne.symm e),Array.getD_eq_getD_getElem?,Array.getElem?_setIfInBounds_ne e,←Array.getD_eq_getD_getElem?];exact hr t ht
section
variable {P:Program} {w0 w ws:World} {g g0:Ctx} {H H0 H':af} {R:aw} {a:Act} {n:Nat} {ops:Array Oper} {r:Option Nat} {mu:Bool} {i:Nat} {o:Oper} {st KE:List Rd}
theorem EV {e:Ex}(h:e≠.normal):(∃id,e=.exit id∧xn (some e)=some (.exit id))∨(e=.ret∧xn (some e)=some .ret):=by
 cases e with
 | normal=>exact absurd rfl h
 | exit id=>exact .inl ⟨id,rfl,rfl⟩
 | ret=>exact .inr ⟨rfl,rfl⟩
theorem xU {d:Option Nat}{x:X}{as:List X}{gd:Gd}{b m:Nat}{R0:aw}{ps:List Nat}{b9 body:C}{M1 M:Out→af→Prop}(ho:ops[i]?=some o)(hc:fZ P n ops mu o st=some ⟨d,.bF x as,gd,KE⟩)(hn:a.tmps.size=n)(hr:ir g w R a (tmpsOf o (.bF x as) gd))(hw:bU R gd=true)
  (hx:x.ev R=.od b) (hb:H[b]?=some (.loop .ready none m R0 ps b9 body)) (hlen:as.length=ps.length) (ck:gM P g) (sr:SR w0 g H w)
  (xh:Y7 P (.code b9 (jq R0 ps (as.map (X.ev R)))) H M1) (Cc:∀o H',M1 o H'→(∃R1,o=.ex .normal R1)∧H'[b]?=some (.loop .ready none m R0 ps b9 body))
  (oj:∀R1 H1,M1 (.ex .normal R1) H1→Y7 P (.code body R1) (H1.set b (.loop .busy none m R0 ps b9 body)) M) (Cd:∀o H',M o H'→H'[b]?=some (.loop .busy none m R0 ps b9 body))
  {K:Act→World→Prop} {Q:Exit→Act→World→Prop}
  (hk:∀v w' g' H' t,((∃R' H2,M (.ex .normal R') H2∧t=.bool true∧H'=H2.set b (.loop .ready none m R0 ps b9 body))∨(∃e R' H2,M (.ex e R') H2∧e≠.normal∧t=.bool false∧H'=H2.set b (.loop .done (some e) m R0 ps b9 body))) →
   Le g w g' w'→SR w0 g' H' w'→VR g' w' t v→Fr g H g' H'→K (a.put d v) w'):wpOpIn (Fw r) 0 P ops Q i K a w:=by
 obtain⟨OP,OQ,h1,h2,h3,h4,h5⟩:=bC hc
 cases h3
 refine iG ho hc hn hr hw ⟨fun _ _=>trivial,?_⟩
 have fh:=iE h1
 obtain⟨t,args,jt,rfl,Sm,h6⟩:=ny h1
 have qy:=mM hr
 have hv:=gn (ρ:=a.eval) args.toList as h6 (uB (qy.sub fun t ht=>by
  simp only[fz,List.mem_filterMap]at ht ⊢
  obtain⟨x,hx,e⟩:=ht
  exact⟨x,by rw[Sm];simp only[Op.operands,Call.operands];simp at hx;simp[hx],e⟩))
 have hf:=qy t (by rw[Sm];simp only[fz,List.mem_filterMap];exact⟨.tmp t,by simp[Op.operands,Call.operands],rfl⟩)
 simp only[X.ev]at hx
 rw[hx]at hf
 generalize Kw:a.tmps.getD t undef=vf at hf
 cases hf with
 | @od _ l o' q' hφ =>
  obtain⟨k1,rec,k2,k3,k4,k5,k6,k7,k8,k9,Za⟩:=sr.eG b _ hb l o' q' hφ
  rw[Oper.semAt_eq _ _ _ fh]
  have a7:(args.toList.map a.eval).toArray.size=rec.params.size:=by
   have:=hv.1;simp at this
   have e2:rec.params.size=ps.length:=by rw[←k5];simp
   simp[e2,←hlen,this]
  have cA:(execOp a.eval o).run P w=.ok (.round l rec.fn ((rec.params.zip (args.toList.map a.eval).toArray).foldl (fun tmps (t,a)=>tmps.setIfInBounds t a) rec.tmps) rec.assign rec.body) w:=by
   have hy:=run_yield (P:=P) (args:=(args.toList.map a.eval).toArray) k2 a7
   have e2:(args.toList.map a.eval).toArray=args.map a.eval:=by rw[←Array.toList_map]
   rw[e2]at hy ⊢
   have e:a.eval (.tmp t)=.func (.yield l) #[] #[]:=Kw
   simp only[execOp,Sm,resolve,e,Deferred.ofValue,invoke]
   simpa using hy
  rw[cA,Oper.uponIn_round]
  refine⟨fun h=>by simp[Fw]at h,roundIn_of_wpIn trivial ?_⟩
  have CC:(rec.params.zip (args.toList.map a.eval).toArray).foldl (fun tmps (t,a)=>tmps.setIfInBounds t a) rec.tmps=(ps.zip (args.toList.map a.eval)).foldl (fun tmps (t,a)=>tmps.setIfInBounds t a) rec.tmps:=by
   rw[←Array.foldl_toList,Array.toList_zip,k5]
  rw[CC]
  have kH:=xS ps (as.map (X.ev R)) (args.toList.map a.eval) R0 rec.tmps hv (by simpa using hlen) k6 k7 k8
  obtain⟨an1,kv⟩:=(ck _ _ _).1 k9
  obtain⟨an2,pG⟩:=(ck _ _ _).1 Za
  refine wpIn_mono (xh w0 g w { tmps:=(ps.zip (args.toList.map a.eval)).foldl (fun tmps (t,a)=>tmps.setIfInBounds t a) rec.tmps,defers:=[] } m an1 false rec.assign (some l) kv (by simp) ck sr kH).1 fun e a1 w1 hp=>?_
  obtain⟨ex,R1,g1,H1,e1,hm,et,OD,DM,Zb,-,-⟩:=hp
  obtain⟨⟨R1',hR1⟩,lL⟩:=Cc _ _ hm
  cases hR1
  cases e<;>simp only[tR,Option.some.injEq,reduceCtorEq]at e1
  have So:=et.φ _ _ hφ
  obtain⟨j1,Zc,j2,j3,j4,j5,j6,j7,j8,j9,j10⟩:=OD.eG b _ lL l o' q' So
  refine⟨_,run_beginRound j2 j3,?_⟩
  obtain⟨KL,MU,A1⟩:=OD.vO (y':=.loop .busy none m R0 ps b9 body) (x':=.loop { Zc with state:=.busy }) lL So j1 j2 rfl rfl (fun w' le Cp r o q hq=>by
   rw[So]at hq;cases hq
   exact⟨j1,_,Cp,rfl,j4,j5,j6,fun t ht=>(j7 t ht).mono le,j8,j9,j10⟩)
  refine wpIn_mono (oj _ _ hm w0 g1 _ a1 m an2 false rec.body (some l) pG (by simp) (ck.mono et) MU ⟨DM.1,fun t ht=>(DM.2 t ht).mono KL⟩).1 fun e2 a2 w3 lD=>?_
  obtain⟨XS,R2,g2,H2,e3,OT,A2,CM,y8,DN,-,-⟩:=lD
  have lM:=Cd _ _ OT
  have AO:=A2.φ _ _ So
  obtain⟨i1,Zd,i2,i3,i4,i5,i6,i7,i8,i9,i10⟩:=CM.eG b _ lM l o' q' AO
  have fin:∀(jump:Option Code) (st:N9) (pe:Option Ex) (v:Bool),xn pe=jump→st.real=(if jump.isNone then .ready else .done)→v=jump.isNone →
    ((v=true∧XS=.normal∧st=.ready∧pe=none)∨(v=false∧XS≠.normal∧st=.done∧pe=some XS)) →
    ∃v' w',(Instr.endRound l jump).run P w3=.ok v' w'∧K (a.put o.dst v') w':=by
   intro jump st pe v q1 q2 q3 q4
   obtain⟨Jo,Jp,DP⟩:=CM.vO (y':=.loop st pe m R0 ps b9 body) (x':=.loop { Zd with state:=if jump.isNone then .ready else .done,pending:=jump }) lM AO i1 i2 rfl rfl (fun w' le Cp r o q hq=>by
    rw[AO]at hq;cases hq
    exact⟨i1,_,Cp,q2.symm,q1.symm,i5,i6,fun t ht=>(i7 t ht).mono le,i8,i9,i10⟩)
   refine⟨_,_,run_endRound jump i2,?_⟩
   refine hk _ _ g2 (H2.set b (.loop st pe m R0 ps b9 body)) (.bool v) ?_ (((et.trans KL).trans A2).trans Jo) Jp (by rw[←q3];exact .bool v) (((Zb.trans A1).trans DN).trans DP)
   rcases q4 with⟨rfl,rfl,rfl,rfl⟩|⟨rfl,bQ,rfl,rfl⟩
   ·exact .inl ⟨R2,H2,OT,rfl,rfl⟩
   ·exact .inr ⟨XS,R2,H2,OT,bQ,rfl,rfl⟩
  cases e2<;>simp only[tR,Option.some.injEq,reduceCtorEq]at e3<;>subst e3
  case normal=>exact fin none .ready none true rfl rfl rfl (.inl ⟨rfl,rfl,rfl,rfl⟩)
  case exit id=>exact fin (some (.exit id)) .done (some (.exit id)) false rfl rfl rfl (.inr ⟨rfl,by simp,rfl,rfl⟩)
  case ret=>exact fin (some .ret) .done (some .ret) false rfl rfl rfl (.inr ⟨rfl,by simp,rfl,rfl⟩)
end
theorem vR {P:Program}{w0:World}{F:Func}{n:Nat}{t0:T}{res:List Rs}:∀(ts:List T) (df:List Deferred) (bs:List Nat) (g:Ctx) (H:af) (w:World) (R:aw) (a:Act) (Rr:Ending→World→Prop),
  xO g ts df→rD ts=some bs→bs.Nodup→(∀b∈bs,H[b]?=some .AB)→SR w0 g H w→iV g w n R a →
  (∀w' v,Le g w g w'→SR w0 g (kill H bs) w'→iV g w' n R a→Fr g H g (kill H bs)→(results F a.tmps).run P w'=.ok v w'→VR g w' t0 v→Rr (.returned v) w') →
  qG R (kill H bs) res=some t0→(∀(g:Ctx) (w:World) (H:af),SR w0 g H w→iV g w n R a→qG R H res=some t0→∃v,(results F a.tmps).run P w=.ok v w∧VR g w t0 v) →
  LeavesInM (Fw none) 0 P F a.tmps Rr df .returning w:=by
 intro ts
 induction ts with
 | nil =>
  intro df bs g H w R a Rr hm hb _ _ sr hr hk sk cA
  cases hm
  simp only[rD,Option.some.injEq]at hb;subst hb
  obtain⟨v,h1,h2⟩:=cA g w H sr hr sk
  exact⟨v,h1,hk w v (.refl _ _) sr hr (.refl _ _) h1 h2⟩
 | cons t ts ih =>
  intro df bs g H w R a Rr hm hb fh KM sr hr hk sk cA
  cases hm with
  | @cons b r o q _ df hφ TB =>
   simp only[rD,D3]at hb
   split at hb
   ·rename_i b' bs' e1 e2
    cases e1
    cases hb
    have hdb:=KM b (by simp)
    obtain⟨k1,k2⟩:=sr.eG b _ hdb r o q hφ
    obtain⟨le,jN,tp⟩:=sr.vO (y':=.dead) (x':=.deferred none) hdb hφ k1 k2 rfl rfl (fun _ _ _=>trivial)
    refine⟨by simp,.inl ⟨r,_,rfl,run_takeDeferred k2,?_⟩⟩
    simp only[List.nodup_cons]at fh
    refine ih df bs' g (H.set b .dead) _ R a Rr TB e2 fh.2 (fun c hc=>?_) jN ⟨hr.1,fun t ht=>(hr.2 t ht).mono le⟩ (fun w' v KL MU vS A1=>hk w' v (le.trans KL) MU vS (tp.trans A1)) sk cA
    exact fN (KM c (by simp[hc])) (by rintro rfl;exact fh.1 hc)
   ·cases hb
def xV (tmps:Array Value):ResultVar→Sem Value
 | .tmp t=>pure (tmps.getD t undef)
 | .cell a t=>do loadVar t (←asAddr (tmps.getD a undef))
theorem ma {P:Program}{w0:World}{g:Ctx}{w:World}{H:af}{R:aw}{a:Act}{n:Nat}(sr:SR w0 g H w):∀(l:List ResultVar) (res:List Rs) (ts:List T),oK P l=some res→tC R H res=some ts→(∀t∈res,Cy n t=true)→iV g w n R a →
  ∃vs:List Value,(l.mapM (xV a.tmps)).run P w=.ok vs w∧bL g w ts vs
 | [],res,ts,h,ht,_,_=>by simp[oK]at h;subst h;simp[tC]at ht;subst ht;exact⟨[],by simp,bL.nil⟩
 | .tmp t :: l,res,ts,h,ht,hn,hr=>by
  simp only[oK,Option.map_eq_some_iff]at h
  obtain⟨OU,h1,rfl⟩:=h
  simp only[tC,zg]at ht
  split at ht
  ·rename_i v vs hv jk
   cases ht;cases hv
   obtain⟨us,h2,h3⟩:=ma (P:=P) sr l OU vs h1 jk (fun t ht=>hn t (by simp[ht])) hr
   exact⟨a.tmps.getD t undef :: us,by rw[List.mapM_cons];simp only[Sem.run_bind,xV,Sem.run_pure,Result.andThen_ok,h2],bL.cons (hr.2 t (by simpa[Cy]using hn (.t t) (by simp))) h3⟩
  ·cases ht
 | .cell c t :: l,res,ts,h,ht,hn,hr=>by
  simp only[oK]at h
  split at h
  ·rename_i d i hu hi
   simp only[Option.map_eq_some_iff]at h
   obtain⟨OU,h1,rfl⟩:=h
   simp only[tC]at ht
   split at ht
   ·rename_i v vs hv jk
    cases ht
    obtain⟨us,h2,h3⟩:=ma (P:=P) sr l OU vs h1 jk (fun t ht=>hn t (by simp[ht])) hr
    simp only[zg]at hv
    split at hv
    ·rename_i cs tG
     have hc:=hr.2 c (by simpa[Cy]using hn (.cl c (if eJ d=true then i.size else 1) (eJ d)) (by simp))
     obtain⟨u,w',g',cA,hw,gl,hg⟩:=JE (P:=P) hu hi rfl (fun e=>by rw[if_pos e]) sr hc tG hv
     subst hw;subst hg
     obtain⟨r,o,us0,hp,_⟩:=pz sr hc tG
     have TC:(xV a.tmps (.cell c t)).run P w'=.ok u w':=by
      rw[←cA,hp]
      have e:xV a.tmps (.cell c t)=(asAddr (a.tmps.getD c undef) >>= fun x=>loadVar t x):=rfl
      rw[e,hp]
      simp only[asAddr,Instr.loadAt,Instr.sureAddr,Sem.run_bind,Sem.run_pure,Result.andThen_ok]
     exact⟨u :: us,by rw[List.mapM_cons];simp only[Sem.run_bind,TC,Result.andThen_ok,h2,Sem.run_pure],bL.cons gl h3⟩
    ·cases hv
   ·cases ht
  ·cases h
theorem sm {P:Program}{fn:Func}{w0:World}{g:Ctx}{w:World}{H:af}{R:aw}{a:Act}{n:Nat}{res:List Rs}{t:T}(sr:SR w0 g H w)(h:oK P fn.results.toList=some res)(hn:∀t∈res,Cy n t=true)(hr:iV g w n R a)(ht:qG R H res=some t):∃v,(results fn a.tmps).run P w=.ok v w∧VR g w t v:=by
 simp only[qG,Option.map_eq_some_iff]at ht
 obtain⟨ts,ht,rfl⟩:=ht
 obtain⟨vs,h1,h2⟩:=ma (P:=P) sr fn.results.toList res ts h ht hn hr
 have hl:ts.length=vs.length:=h2.1
 have e:results fn a.tmps=(fn.results.mapM (xV a.tmps) >>= fun vs=>pure (if h:vs.size=1 then vs[0]else .tuple vs)):=rfl
 refine⟨if h:vs.toArray.size=1 then vs.toArray[0]else .tuple vs.toArray,?_,?_⟩
 ·rw[e,Array.mapM_eq_mapM_toList]
  simp only[Sem.run_bind,Sem.run_map,map_eq_pure_bind,h1,Result.andThen_ok,Sem.run_pure]
 ·match ts,vs,hl,h2 with
  | [],[],_,_=>exact .bJ rfl (by simp)
  | [t],[v],_,h2=>simpa[Ca]using h2.head
  | t :: t' :: ts,v :: v' :: vs,_,h2 =>
   have:¬(v :: v' :: vs).toArray.size=1:=by simp
   rw[dif_neg this]
   simpa[Ca]using h2.bJ
theorem gN {P:Program}{n:Nat}{ops:Array Oper}{mu:Bool}{o:Oper}{st:List Rd}{y:O}(h:fZ P n ops mu o st=some y):y.d≠some n:=by
 obtain⟨_,_,_,_,e,_,h5⟩:=bC h
 subst e
 exact fun e=>Nat.lt_irrefl n (h5 n e)
theorem A3 {P:Program}{n:Nat}{ops:Array Oper}{mu:Nat→Bool}{w0 w ws w':World}{df:List Deferred}{mk:T}{g g0 g':Ctx}{H H0 H':af}{pre Ze:List It}{L L':Array Bool}{R R':aw}{a a':Act}
  (h:Dr P n ops mu w0 df mk g0 ws H0 pre L g R H a w) (h':Dr P n ops mu w0 df mk g0 ws H0 Ze L' g' R' H' a' w') (ck:gM P g):gM P g':=fun n c k=>by rw[h'.le.ck,←h.le.ck];exact ck n c k
theorem sn {P:Program}{an:An}{f:FuncId}{fn:Fn}(y9:ak P an f=some fn):∃F code res body,P.funcs[f]?=some F∧F.body=some code∧oK P F.results.toList=some res∧bG P F.ntmps an true code=some body ∧
  dL P f=true∧F.params.size+F.nfree≤F.ntmps∧(∀t∈res,Cy F.ntmps t=true)∧fn=⟨F.ntmps,F.params.size+F.nfree,res,body⟩:=by
 unfold ak at y9
 cases hF:P.funcs[f]? with
 | none=>simp[hF]at y9
 | some F =>
  simp only[hF]at y9
  split at y9
  ·rename_i code res hb sk
   split at y9
   ·rename_i c vL
    split at y9
    ·rename_i hk
     simp only[Bool.and_eq_true,decide_eq_true_eq,List.all_eq_true]at hk
     obtain⟨⟨kR,a7⟩,al⟩:=hk
     cases y9
     exact⟨F,code,res,c,rfl,hb,sk,vL,kR,a7,al,rfl⟩
    ·cases y9
   ·cases y9
  ·cases y9
theorem su {F:Func}{g:Ctx}{w:World}{as:List T}{args:List Value}(hv:bL g w as args){k:Nat}(hn:as.length=k)(a7:k≤F.ntmps) :
  iV g w F.ntmps (hU as) { tmps:=args.toArray++Array.replicate (F.ntmps-args.toArray.size) undef,defers:=[] }:=by
 have KN:args.length=as.length:=hv.1.symm
 refine⟨by simp[KN,hn];omega,fun t ht=>?_⟩
 by_cases XT:t<as.length
 ·simp only[hU]
  rw[List.getD_eq_getElem?_getD,List.getElem?_eq_getElem XT,Option.getD_some]
  rw[Array.getD_eq_getD_getElem?,Array.getElem?_append_left (by simpa[KN]using XT)]
  simp only[List.getElem?_toArray,List.getElem?_eq_getElem (KN▸XT:t<args.length),Option.getD_some]
  exact hv.2 t _ _ (List.getElem?_eq_getElem XT) (List.getElem?_eq_getElem _)
 ·simp only[hU]
  rw[List.getD_eq_getElem?_getD,List.getElem?_eq_none (by omega),Option.getD_none]
  rw[Array.getD_eq_getD_getElem?,Array.getElem?_append_right (by simp[KN];omega),Array.getElem?_replicate]
  split<;>exact iS
theorem l9.TD {w0 w:World}{n:Nat}{hr pt:Bool}{df:List Deferred}{mk:T}{g:Ctx}{H:af}{Q:Out→af→Prop}(hh:hr=false→pt=false){e:Exit}{a:Act}{u:World}(h:l9 w0 n pt df mk g w H Q e a u):l9 w0 n hr df mk g w H Q e a u :=
 h.trans (.refl _ _) (.refl _ _) id fun e=>⟨hh e,rfl,rfl⟩
theorem W.sim {P:Program}{E:Env}(hE:AY P E){j:J}{H:af}{Q:Out→af→Prop}(h:W E j H Q):Y7 P j H Q:=by
 induction h with
 | @skip R H Q h =>
  intro w0 g w a n an top code r hc ht ck sr hr
  obtain rfl:=ER hc
  exact⟨wpIn_skip ⟨.normal,R,g,H,rfl,h,.refl _ _,sr,hr,.refl _ _,id,fun _=>⟨rfl,rfl⟩⟩,by rintro _⟨⟩⟩
 | @exit id R H Q h =>
  intro w0 g w a n an top code r hc ht ck sr hr
  obtain rfl:=ES hc
  exact⟨wpIn_exit ⟨.exit id,R,g,H,rfl,h,.refl _ _,sr,hr,.refl _ _,fun m=>m,fun _=>⟨rfl,rfl⟩⟩,by rintro _⟨⟩⟩
 | @ret R H Q h =>
  intro w0 g w a n an top code r hc ht ck sr hr
  obtain rfl:=KF hc
  exact⟨wpIn_ret ⟨.ret,R,g,H,rfl,h,.refl _ _,sr,hr,.refl _ _,id,fun _=>⟨rfl,rfl⟩⟩,by rintro _⟨⟩⟩
 | @RZ l R H Q _ ih =>
  intro w0 g w a n an top code r hc ht ck sr hr
  obtain⟨id,ops,mu,⟨rfl,h1⟩|⟨rfl,ord,kO,h1,h2⟩⟩:=KH hc
  ·exact⟨wpIn_mono (wpIn_region (ih.1 w0 g w H g w a n ops mu _ r h1 ck sr hr (.refl _ _) (.refl _ _))) fun e a w hp=>hp.toC,by rintro _⟨⟩⟩
  ·refine⟨wpIn_mono (wpIn_region_any (Q:=zG w0 n a.defers (R n) g w H Q) hE.mixed ?_) fun e a w hp=>hp.toC,by rintro _⟨⟩⟩
   obtain⟨jN,le⟩:=sr.drew (w':={ w with drawn:=w.drawn+1 }) (Tr.drew w) rfl
   have hd:=Dr.init (ops:=ops) (mu:=mu) (P:=P) (mk:=R n) jN hr.1 rfl (fun t ht=>(hr.2 t ht).mono le) le (.refl g H)
   refine ih.2 w0 n ops mu a.defers (R n) g w H [] _ g a _ ord kO r ops.size ck h1 h2 hd ?_
   exact Nat.le_trans (List.count_le_length) (by simp)
 | @seq x y R H Q M _ h2 h3 xh oj =>
  intro w0 g w a n an top code r hc ht ck sr hr
  obtain⟨c,d,rfl,k1,k2⟩:=KG hc
  refine⟨wpIn_seq (wpIn_mono (xh w0 g w a n an top c r k1 ht ck sr hr).1 fun e a' w' hp=>?_),by rintro _⟨⟩⟩
  have hb:(C.seq x y).na=false→x.na=false∧y.na=false:=by simp[C.na]
  obtain⟨ex,R',g',H',e1,hm,le,jN,pt,fr,xf,A4⟩:=hp
  cases e<;>simp only[tR,Option.some.injEq,reduceCtorEq]at e1<;>subst e1
  case normal =>
   exact wpIn_mono (oj R' H' hm w0 g' w' a' n an top d r k2 ht (ck.mono le) jN pt).1 fun e a2 w2 hp=>hp.trans le fr xf fun e=>⟨(hb e).2,A4 (hb e).1⟩
  case exit id=>exact⟨_,R',g',H',rfl,h3 _ _ hm (by simp),le,jN,pt,fr,xf,fun e=>A4 (hb e).1⟩
  case ret=>exact⟨_,R',g',H',rfl,h3 _ _ hm (by simp),le,jN,pt,fr,xf,fun e=>A4 (hb e).1⟩
 | @cond x c d R H Q t hx _ ih =>
  intro w0 g w a n an top code r hc ht ck sr hr
  obtain⟨o,d',e',rfl,k1,k2,k3,k4⟩:=ET hc
  refine⟨wpIn_cond (t:=t) ?_ ?_,by rintro _⟨⟩⟩
  ·have hv:VR g w (.bool t) (a.eval o):=by
    cases o with
    | tmp u=>simp only[aO,Option.some.injEq]at k1;subst k1;simp only[X.ev]at hx;rw[←hx];exact hr.2 u (k4 u rfl)
    | const v =>
     simp only[aO,Option.map_eq_some_iff]at k1
     obtain⟨u,h1,rfl⟩:=k1
     simp only[X.ev]at hx;subst hx
     exact mF h1
    | «global» _=>simp[aO]at k1
    | func f=>simp only[aO,Option.some.injEq]at k1;subst k1;simp[X.ev]at hx
   generalize a.eval o=v at hv
   cases hv;rfl
  ·cases t
   ·exact wpIn_mono (ih w0 g w a n an top e' r k3 ht ck sr hr).1 fun e a w hp=>hp.TD (by simp[C.na])
   ·exact wpIn_mono (ih w0 g w a n an top d' r k2 ht ck sr hr).1 fun e a w hp=>hp.TD (by simp[C.na];intro h _;exact h)
 | @block id x R H Q M _ h2 h3 ih =>
  intro w0 g w a n an top code r hc ht ck sr hr
  obtain⟨c,rfl,k1⟩:=CK hc
  refine⟨wpIn_block (wpIn_mono (ih w0 g w a n an top c r k1 ht ck sr hr).1 fun e a' w' hp=>?_),by rintro _⟨⟩⟩
  obtain⟨ex,R',g',H',e1,hm,le,jN,pt,fr,A4⟩:=hp
  cases e<;>simp only[tR,Option.some.injEq,reduceCtorEq]at e1<;>subst e1
  case normal=>exact⟨_,R',g',H',rfl,h3 _ _ hm (by simp),le,jN,pt,fr,A4⟩
  case exit id' =>
   simp only[Exit.inBlock]
   split
   ·rename_i e;subst e;exact⟨_,R',g',H',rfl,h2 _ _ hm,le,jN,pt,fr,A4⟩
   ·rename_i e;exact⟨_,R',g',H',rfl,h3 _ _ hm (fun R2 e2=>by cases e2;exact e rfl),le,jN,pt,fr,A4⟩
  case ret=>exact⟨_,R',g',H',rfl,h3 _ _ hm (by simp),le,jN,pt,fr,A4⟩
 | @loop x R H Q M _ h2 h3 xh oj =>
  intro w0 g w a n an top code r hc ht ck sr hr
  obtain⟨c,rfl,k1⟩:=EU hc
  have key:sd (Fw r) 0 P c (l9 w0 n x.loop.na a.defers (R n) g w H Q) a w:=by
   refine xP (wpIn_mono (xh w0 g w a n an top c r k1 ht ck sr hr).1 fun e a' w' hp=>?_)
   obtain⟨ex,R',g',H',e1,hm,le,jN,pt,fr,xf,A4⟩:=hp
   cases e<;>simp only[tR,Option.some.injEq,reduceCtorEq]at e1<;>subst e1
   case normal =>
    have:=(oj R' H' hm w0 g' w' a' n an top (.loop c) r hc ht (ck.mono le) jN pt).2 c rfl
    intro b k cs h1 h2 h4
    obtain⟨e,a2,w2,hq,oI⟩:=this b k cs h1 h2 h4
    exact⟨e,a2,w2,hq.trans le fr xf fun e=>⟨e,A4 e⟩,oI⟩
   case exit id=>exact⟨_,R',g',H',rfl,h3 _ _ hm (by simp),le,jN,pt,fr,xf,A4⟩
   case ret=>exact⟨_,R',g',H',rfl,h3 _ _ hm (by simp),le,jN,pt,fr,xf,A4⟩
  exact⟨CI key,fun body e=>by cases e;exact key⟩
 | @cP m x ps b9 body R H Q f cs M hx _ h2 ih =>
  intro w0 g w a n an top code r hc ht ck sr hr
  obtain⟨Zf,qs,c,d,rfl,k1,k2,k3,k4,k5,rfl,k7,rfl⟩:=CL hc
  obtain rfl:=ht k4
  refine⟨wpIn_rangeFunc fun fn _=>?_,by rintro _⟨⟩⟩
  have hv:VR g w (.fn f cs) (a.eval Zf):=by
   cases Zf with
   | tmp u=>simp only[aO,Option.some.injEq]at k1;subst k1;simp only[X.ev]at hx;rw[←hx];exact hr.2 u (k5 u (by simp[eu]))
   | const v =>
    simp only[aO,Option.map_eq_some_iff]at k1
    obtain⟨u,h1,rfl⟩:=k1
    simp only[X.ev]at hx;subst hx
    exact mF h1
   | «global» _=>simp[aO]at k1
   | func f'=>simp only[aO,Option.some.injEq]at k1;subst k1;simp only[X.ev]at hx;cases hx;exact .fn rfl (by simp)
  generalize hgv:a.eval Zf=vf at hv
  cases hv with
  | @fn _ _ vs hl tG =>
   obtain⟨g1,et,OD,Zb,So⟩:=sr.EF (x:=.deferred (some [])) (y:=.AB) rfl (fun g' w' _ q1 q2 q3 r o q hq=>by rw[q2]at hq;cases hq;exact⟨q1,q3⟩)
   have a7:(w.alloc (.deferred (some []))).heap.size=w.heap.size+1:=by simp
   obtain⟨g2,KL,MU,A1,AO⟩:=OD.EF (x:=.loop { state:=.ready,pending:=none,fn,tmps:=a.tmps,params:=qs,assign:=c,body:=d,defers:=w.heap.size }) (y:=.loop .ready none m R qs.toList b9 body) rfl
    (fun g' w' le q1 q2 q3 r o q hq=>by
     rw[q2]at hq;cases hq
     refine⟨q1,_,q3,rfl,rfl,rfl,hr.1,fun t ht=>((hr.2 t ht).mono et).mono le,k7,?_,?_⟩
     ·rw[le.ck,et.ck];exact(ck _ _ _).2 ⟨an,k2⟩
     ·rw[le.ck,et.ck];exact(ck _ _ _).2 ⟨an,k3⟩)
   rw[a7]at AO
   have hlen:(H++[B.AB]).length=H.length+1:=by simp
   rw[hlen]at AO
   have sy:H++[B.AB]++[B.loop .ready none m R qs.toList b9 body]=H++[.AB,.loop .ready none m R qs.toList b9 body]:=by simp
   rw[sy]at MU A1
   have OW:=et.trans KL
   have TE:bL g2 ((w.alloc (.deferred (some []))).alloc (.loop { state:=.ready,pending:=none,fn,tmps:=a.tmps,params:=qs,assign:=c,body:=d,defers:=w.heap.size })) (.od (H.length+1) :: cs) (.func (.yield (w.heap.size+1)) #[] #[] :: vs.toList) :=
    bL.cons (.od AO) ⟨by simp[hl],fun i t v ha hb=>(tG i t v ha (by simpa using hb)).mono OW⟩
   obtain⟨kR,EW⟩:=ih w0 g2 _ _ (ck.mono OW) MU TE
   refine⟨w.heap.size+1,[{ target:=.collected w.heap.size,args:=#[] }],((w.alloc (.deferred (some []))).alloc (.loop { state:=.ready,pending:=none,fn,tmps:=a.tmps,params:=qs,assign:=c,body:=d,defers:=w.heap.size })),{ target:=.fn (.func f) vs,args:=#[.func (.yield (w.heap.size+1)) #[] #[]] },((w.alloc (.deferred (some []))).alloc (.loop { state:=.ready,pending:=none,fn,tmps:=a.tmps,params:=qs,assign:=c,body:=d,defers:=w.heap.size })),f,#[.func (.yield (w.heap.size+1)) #[] #[]]++vs,((w.alloc (.deferred (some []))).alloc (.loop { state:=.ready,pending:=none,fn,tmps:=a.tmps,params:=qs,assign:=c,body:=d,defers:=w.heap.size })),run_enterLoop_outer _ _ _ _ _,?_,fun _ _=>trivial,?_,fun h=>by simp[Fw]at h,?_⟩
   ·simp only[resolve,hgv,Deferred.ofValue]
    simp[Act.eval]
   ·exact kQ kR
   ·have e3:(.func (.yield (w.heap.size+1)) #[] #[] :: vs.toList:List Value).toArray=#[.func (.yield (w.heap.size+1)) #[] #[]]++vs:=by simp
    rw[e3]at EW
    refine EW.mono fun e w3 ⟨v,t,g3,H3,he,hM,A2,CM,_,DN⟩=>?_
    subst he
    obtain⟨st,fV,cO,XU,DQ,hQ⟩:=h2 _ _ hM
    have hφ3:=A2.φ _ _ AO
    obtain⟨j1,rec,j2,j3,j4,j5,j6,j7,j8,j9,j10⟩:=CM.eG _ _ DQ _ _ _ hφ3
    obtain⟨Jo,Jp,DP⟩:=CM.vO (y':=.dead) (x':=.loop { rec with state:=.exhausted }) DQ hφ3 j1 j2 rfl rfl (fun _ _ _=>trivial)
    refine⟨_,_,run_endLoop j2 (by rw[j3];cases st<;>simp[N9.real]at cO ⊢),?_⟩
    generalize w3.putObj (w.heap.size+1) (.loop { rec with state:=.exhausted })=W4 at Jo Jp ⊢
    rw[j4]
    have OX:=(OW.trans A2).trans Jo
    have hFr:Fr g H g3 (H3.set (H.length+1) .dead):=by
     have:=(Zb.trans A1).trans (DN.trans DP)
     exact this
    have post:∀e,tR e=some (D4 fV)→l9 w0 m (C.cP m x qs.toList b9 body).na a.defers (R m) g w H Q e { a with defers:=[{ target:=.collected w.heap.size,args:=#[] }]++a.defers } W4:=by
     intro e he
     refine⟨_,_,g3,_,he,hQ,OX,Jp,⟨hr.1,fun t ht=>?_⟩,hFr,fun hm=>?_,fun h=>by simp[C.na]at h⟩
     ·simp only[pn];rw[if_neg (Nat.ne_of_lt ht)];exact(hr.2 t ht).mono OX
     ·obtain⟨ts,e1,e2⟩:=hm
      refine⟨.ptr H.length 0 :: ts,by simp[pn,e1,ou],.cons (((KL.trans A2).trans Jo).φ _ _ So) (e2.mono OX)⟩
    cases hp:fV with
    | none=>simp only[xn];exact post .normal (by rw[hp];rfl)
    | some e =>
     rcases EV (e:=e) (by rintro rfl;exact XU hp)with⟨id,rfl,e5⟩|⟨rfl,e5⟩
     ·simp only[e5];exact wpIn_exit (post (.exit id) (by rw[hp];rfl))
     ·simp only[e5];exact wpIn_ret (post .ret (by rw[hp];rfl))
 | @nil R H Q h =>
  refine⟨fun w0 g0 ws H0 g w a n ops mu is r hc ck sr hr le fr=>?_,fun w0 n ops mu df mk g0 ws H0 pre L g a w ord kO r fuel ck h1 h2 hd hl=>?_⟩
  ·obtain rfl:=xR hc
   exact⟨.normal,R,g,H,rfl,h,le,sr,hr,fr,rfl,rfl⟩
  ·have bB:=dh ord pre kO h1
   cases kO with
   | cons _ _=>simp at h2
   | nil=>exact CJ (by simpa using bB) h fuel L g a w hl hd
 | @no o l R H Q hg _ ih =>
  refine⟨fun w0 g0 ws H0 g w a n ops mu is r hc ck sr hr le fr=>?_,fun w0 n ops mu df mk g0 ws H0 pre L g a w ord kO r fuel ck h1 h2 hd hl=>?_⟩
  ·obtain⟨i,uJ,oper,rfl,ho,fW,fY⟩:=dE hc
   rw[wpOpsIn_cons]
   refine AZ ho fW hr.1 (hr.rg (qx fW)) hg ?_
   have:=ih.1 w0 g0 ws H0 g w (a.put o.d undef) n ops mu uJ r fY ck sr (hr.put (by obtain⟨_,_,_,_,e,_,h5⟩:=bC fW;rw[e];exact h5) (.refl _ _) iS) le fr
   rwa[jH,cF (gN fW)]at this
  ·obtain⟨x,l',gr,oper,rfl,rfl,h3,hh,h4⟩:=iW h1 h2
   cases he:x.early with
   | true=>exact ih.2 w0 n ops mu df mk g0 ws H0 _ L g a w gr l' r fuel ck h4 h3 (hd.KI hh he hg) hl
   | false =>
    refine fA (Tl:=fun R' H'=>R'=bE R x.o.d b7∧H'=H) hh he (dh ord pre _ h1) (dD gr _ l' h4) ?_ ?_ fuel L g a w hl hd
    ·rintro R' H'⟨rfl,rfl⟩ fuel L' g' a' w' hL iu
     exact ih.2 w0 n ops mu df mk g0 ws H0 _ L' g' a' w' gr l' r fuel (A3 hd iu ck) h4 h3 iu hL
    ·intro L g a w hd hp K hK
     exact AZ hh.ho hh.co hd.xg (hd.fB hh hp) hg (hK _ _ g _ w ⟨rfl,rfl⟩ (hd.both hh he hp (.refl _ _) hd.sr iS (.refl _ _) fun _ _ _ _ _ _ _ _ _ e=>e))
 | @op d b gd s l R H Q v H' hg hv hs _ ih =>
  refine⟨fun w0 g0 ws H0 g w a n ops mu is r hc ck sr hr le fr=>?_,fun w0 n ops mu df mk g0 ws H0 pre L g a w ord kO r fuel ck h1 h2 hd hl=>?_⟩
  ·obtain⟨i,uJ,oper,rfl,ho,fW,fY⟩:=dE hc
   rw[wpOpsIn_cons]
   obtain⟨u,w',g',b0,nO,jN,gl,tp⟩:=A0 (r:=r) ho fW hr.1 (hr.rg (qx fW)) hg sr hv
   refine b0 _ _ ?_
   have:=ih.1 w0 g0 ws H0 g' w' (a.put d u) n ops mu uJ r fY (ck.mono nO) jN (hr.put (by obtain⟨_,_,_,_,e,_,h5⟩:=bC fW;cases e;exact h5) nO gl) (le.trans nO) (fr.trans tp)
   rwa[jH,cF (gN fW)]at this
  ·obtain⟨x,l',gr,oper,rfl,oM,h3,hh,h4⟩:=iW h1 h2
   have DR:x.o.d=d:=by rw[oM]
   cases he:x.early with
   | true =>
    have:=hd.KJ hh he (b:=b) (by rw[oM]) (by rw[oM];exact hg) hv
    rw[DR]at this
    exact ih.2 w0 n ops mu df mk g0 ws H0 _ L g a w gr l' r fuel ck h4 h3 this hl
   | false =>
    refine fA (Tl:=fun R' H2=>R'=bE R d v∧H2=H') hh he (dh ord pre _ h1) (dD gr _ l' h4) ?_ ?_ fuel L g a w hl hd
    ·rintro R' H'⟨rfl,rfl⟩ fuel L' g' a' w' hL iu
     exact ih.2 w0 n ops mu df mk g0 ws H0 _ L' g' a' w' gr l' r fuel (A3 hd iu ck) h4 h3 iu hL
    ·intro L2 g2 a2 w2 cz hp K hK
     have MV:gM P g2:=A3 hd cz ck
     have fW:=hh.co
     have qy:=cz.fB hh hp
     have cO:=cz.stays hh he hp (H':=H') (by rw[oM];exact hs)
     rw[oM]at fW qy
     obtain⟨u,w',g',b0,nO,jN,gl,tp⟩:=A0 (r:=r) hh.ho fW cz.xg qy hg cz.sr hv
     refine b0 _ _ (hK _ _ g' _ w' ⟨rfl,rfl⟩ ?_)
     have:=cz.both hh he hp nO jN gl tp cO
     rwa[DR]at this
 | @call d f as gd s l R H Q M hg _ hs h2 xh oj =>
  refine⟨fun w0 g0 ws H0 g w a n ops mu is r hc ck sr hr le fr=>?_,fun w0 n ops mu df mk g0 ws H0 pre L g a w ord kO r fuel ck h1 h2 hd hl=>?_⟩
  ·obtain⟨i,uJ,oper,rfl,ho,fW,fY⟩:=dE hc
   rw[wpOpsIn_cons]
   refine uG (r:=r) ho fW hr.1 (hr.rg (qx fW)) hg (fun args hv=>xh w0 g w args ck sr hv) fun u w' g' H' t hM nO jN gl tp=>?_
   have:=(oj t H' hM).1 w0 g0 ws H0 g' w' (a.put d u) n ops mu uJ r fY (ck.mono nO) jN (hr.put (by obtain⟨_,_,_,_,e,_,h5⟩:=bC fW;cases e;exact h5) nO gl) (le.trans nO) (fr.trans tp)
   rwa[jH,cF (gN fW)]at this
  ·obtain⟨x,l',gr,oper,rfl,oM,h3,hh,h4⟩:=iW h1 h2
   have DR:x.o.d=d:=by rw[oM]
   cases he:x.early with
   | true=>exact absurd (by rw[oM];rfl) (hh.kl he).1
   | false =>
    refine fA (Tl:=fun R' H2=>∃v,M (.val v) H2∧R'=bE R d v) hh he (dh ord pre _ h1) (dD gr _ l' h4) ?_ ?_ fuel L g a w hl hd
    ·rintro R' H'⟨v,hM,rfl⟩ fuel L' g' a' w' hL iu
     exact(oj v H' hM).2 w0 n ops mu df mk g0 ws H0 _ L' g' a' w' gr l' r fuel (A3 hd iu ck) h4 h3 iu hL
    ·intro L2 g2 a2 w2 cz hp K hK
     have MV:gM P g2:=A3 hd cz ck
     have fW:=hh.co
     have qy:=cz.fB hh hp
     rw[oM]at fW qy
     refine uG (r:=r) hh.ho fW cz.xg qy hg (fun args hv=>xh w0 g2 w2 args MV cz.sr hv) fun u w' g' H' t hM nO jN gl tp=>hK _ H' g' _ w' ⟨t,hM,rfl⟩ ?_
     have cO:=cz.stays hh he hp (H':=H') (by rw[oM];exact hs t H' hM)
     have:=cz.both hh he hp nO jN gl tp cO
     rwa[DR]at this
 | @bF d xx f cs as gd s l R H Q M hg hf _ hs h2 xh oj =>
  refine⟨fun w0 g0 ws H0 g w a n ops mu is r hc ck sr hr le fr=>?_,fun w0 n ops mu df mk g0 ws H0 pre L g a w ord kO r fuel ck h1 h2 hd hl=>?_⟩
  ·obtain⟨i,uJ,oper,rfl,ho,fW,fY⟩:=dE hc
   rw[wpOpsIn_cons]
   refine sf (r:=r) ho fW hr.1 (hr.rg (qx fW)) hg hf (fun args hv=>xh w0 g w args ck sr hv) fun u w' g' H' t hM nO jN gl tp=>?_
   have:=(oj t H' hM).1 w0 g0 ws H0 g' w' (a.put d u) n ops mu uJ r fY (ck.mono nO) jN (hr.put (by obtain⟨_,_,_,_,e,_,h5⟩:=bC fW;cases e;exact h5) nO gl) (le.trans nO) (fr.trans tp)
   rwa[jH,cF (gN fW)]at this
  ·obtain⟨x,l',gr,oper,rfl,oM,h3,hh,h4⟩:=iW h1 h2
   have DR:x.o.d=d:=by rw[oM]
   cases he:x.early with
   | true=>exact absurd (by rw[oM];rfl) (hh.kl he).1
   | false =>
    refine fA (Tl:=fun R' H2=>∃v,M (.val v) H2∧R'=bE R d v) hh he (dh ord pre _ h1) (dD gr _ l' h4) ?_ ?_ fuel L g a w hl hd
    ·rintro R' H'⟨v,hM,rfl⟩ fuel L' g' a' w' hL iu
     exact(oj v H' hM).2 w0 n ops mu df mk g0 ws H0 _ L' g' a' w' gr l' r fuel (A3 hd iu ck) h4 h3 iu hL
    ·intro L2 g2 a2 w2 cz hp K hK
     have MV:gM P g2:=A3 hd cz ck
     have fW:=hh.co
     have qy:=cz.fB hh hp
     rw[oM]at fW qy
     refine sf (r:=r) hh.ho fW cz.xg qy hg hf (fun args hv=>xh w0 g2 w2 args MV cz.sr hv) fun u w' g' H' t hM nO jN gl tp=>hK _ H' g' _ w' ⟨t,hM,rfl⟩ ?_
     have cO:=cz.stays hh he hp (H':=H') (by rw[oM];exact hs t H' hM)
     have:=cz.both hh he hp nO jN gl tp cO
     rwa[DR]at this
 | @od d xx b as gd s l R H Q m R0 ps b9 body M1 M hg hf hb hn _ Cc _ Cd AF _ DC _ xh oj Sp Sq =>
  refine⟨fun w0 g0 ws H0 g w a n ops mu is r hc ck sr hr le fr=>?_,fun w0 n ops mu df mk g0 ws H0 pre L g a w ord kO r fuel ck h1 h2 hd hl=>?_⟩
  ·obtain⟨i,uJ,oper,rfl,ho,fW,fY⟩:=dE hc
   rw[wpOpsIn_cons]
   refine xU (r:=r) ho fW hr.1 (hr.rg (qx fW)) hg hf hb hn ck sr xh Cc oj Cd fun u w' g' H' t zp nO jN gl tp=>?_
   have TF:=hr.put (d:=d) (by obtain⟨_,_,_,_,e,_,h5⟩:=bC fW;cases e;exact h5) nO gl
   rcases zp with⟨R',H2,hM,rfl,rfl⟩|⟨e,R',H2,hM,bQ,rfl,rfl⟩
   ·have:=(Sp R' H2 hM).1 w0 g0 ws H0 g' w' (a.put d u) n ops mu uJ r fY (ck.mono nO) jN TF (le.trans nO) (fr.trans tp)
    rwa[jH,cF (gN fW)]at this
   ·have:=(Sq e R' H2 hM bQ).1 w0 g0 ws H0 g' w' (a.put d u) n ops mu uJ r fY (ck.mono nO) jN TF (le.trans nO) (fr.trans tp)
    rwa[jH,cF (gN fW)]at this
  ·obtain⟨x,l',gr,oper,rfl,oM,h3,hh,h4⟩:=iW h1 h2
   have DR:x.o.d=d:=by rw[oM]
   cases he:x.early with
   | true=>exact absurd (by rw[oM];rfl) (hh.kl he).1
   | false =>
    refine fA (Tl:=fun R' H'=>(∃R2 H2,M (.ex .normal R2) H2∧R'=bE R d (.bool true)∧H'=H2.set b (.loop .ready none m R0 ps b9 body))∨(∃e R2 H2,M (.ex e R2) H2∧e≠.normal∧R'=bE R d (.bool false)∧H'=H2.set b (.loop .done (some e) m R0 ps b9 body)))
     hh he (dh ord pre _ h1) (dD gr _ l' h4) ?_ ?_ fuel L g a w hl hd
    ·rintro R' H' (⟨R2,H2,hM,rfl,rfl⟩|⟨e,R2,H2,hM,bQ,rfl,rfl⟩) fuel L' g' a' w' hL iu
     ·exact(Sp R2 H2 hM).2 w0 n ops mu df mk g0 ws H0 _ L' g' a' w' gr l' r fuel (A3 hd iu ck) h4 h3 iu hL
     ·exact(Sq e R2 H2 hM bQ).2 w0 n ops mu df mk g0 ws H0 _ L' g' a' w' gr l' r fuel (A3 hd iu ck) h4 h3 iu hL
    ·intro L2 g2 a2 w2 cz hp K hK
     have MV:gM P g2:=A3 hd cz ck
     have fW:=hh.co
     have qy:=cz.fB hh hp
     rw[oM]at fW qy
     refine xU (r:=r) hh.ho fW cz.xg qy hg hf hb hn MV cz.sr xh Cc oj Cd fun u w' g' H' t zp nO jN gl tp=>?_
     have lM:∀(hs:ky R H' s),Dr P n ops mu w0 df mk g0 ws H0 (pre++[x]) (L2.setIfInBounds x.i true) g' (bE R d t) H' (a2.put d u) w':=fun hs=>by
      have cO:=cz.stays hh he hp (H':=H') (by rw[oM];exact hs)
      have:=cz.both hh he hp nO jN gl tp cO
      rwa[DR]at this
     rcases zp with⟨R',H2,hM,rfl,rfl⟩|⟨e,R',H2,hM,bQ,rfl,rfl⟩
     ·exact hK _ _ g' _ w' (.inl ⟨R',H2,hM,rfl,rfl⟩) (lM (AF R' H2 hM))
     ·exact hK _ _ g' _ w' (.inr ⟨e,R',H2,hM,bQ,rfl,rfl⟩) (lM (DC e R' H2 hM bQ))
 | @Cb d neg c xx yy s l R H Q hs _ hx hy hc ih =>
  subst hc
  subst hs
  refine⟨fun w0 g0 ws H0 g w a n ops mu is r hc ck sr hr le fr=>?_,fun w0 n ops mu df mk g0 ws H0 pre L g a w ord kO r fuel ck h1 h2 hd hl=>?_⟩
  ·obtain⟨i,uJ,oper,rfl,ho,fW,fY⟩:=dE hc
   rw[wpOpsIn_cons]
   obtain⟨b,b0⟩:=uF (r:=r) ho fW hr.1 (hr.rg (qx fW)) rfl hx hy
   refine b0 _ _ ?_
   have:=(ih b).1 w0 g0 ws H0 g w (a.put d (.bool b)) n ops mu uJ r fY ck sr (hr.put (by obtain⟨_,_,_,_,e,_,h5⟩:=bC fW;cases e;exact h5) (.refl _ _) (.bool b)) le fr
   rwa[jH,cF (gN fW)]at this
  ·obtain⟨x,l',gr,oper,rfl,oM,h3,hh,h4⟩:=iW h1 h2
   have DR:x.o.d=d:=by rw[oM]
   cases he:x.early with
   | true =>
    have:=(hh.kl he).1
    rw[oM]at this
    exact absurd (by cases d<;>rfl) this
   | false =>
    refine fA (Tl:=fun R' H2=>∃b:Bool,R'=bE R d (.bool b)∧H2=H) hh he (dh ord pre _ h1) (dD gr _ l' h4) ?_ ?_ fuel L g a w hl hd
    ·rintro R' H'⟨b,rfl,rfl⟩ fuel L' g' a' w' hL iu
     exact(ih b).2 w0 n ops mu df mk g0 ws H0 _ L' g' a' w' gr l' r fuel (A3 hd iu ck) h4 h3 iu hL
    ·intro L2 g2 a2 w2 cz hp K hK
     have MV:gM P g2:=A3 hd cz ck
     have fW:=hh.co
     have qy:=cz.fB hh hp
     rw[oM]at fW qy
     obtain⟨b,b0⟩:=uF (r:=r) hh.ho fW cz.xg qy rfl hx hy
     refine b0 _ _ (hK _ H g2 _ w2 ⟨b,rfl,rfl⟩ ?_)
     have:=cz.both hh he hp (.refl _ _) cz.sr (.bool b) (.refl _ _) fun _ _ _ _ _ _ _ _ _ e=>e
     rwa[DR]at this
 | @qU d xx gd s l R H Q b bi es ix cur hg hx hb hs _ ih =>
  refine⟨fun w0 g0 ws H0 g w a n ops mu is r hc ck sr hr le fr=>?_,fun w0 n ops mu df mk g0 ws H0 pre L g a w ord kO r fuel ck h1 h2 hd hl=>?_⟩
  ·obtain⟨i,uJ,oper,rfl,ho,fW,fY⟩:=dE hc
   rw[wpOpsIn_cons]
   obtain⟨t,H',u,w',g',hM,b0,nO,jN,gl,tp⟩:=xQ (r:=r) ho fW hr.1 (hr.rg (qx fW)) hg sr hx hb
   refine b0 _ _ ?_
   have:=(ih t H' hM).1 w0 g0 ws H0 g' w' (a.put d u) n ops mu uJ r fY (ck.mono nO) jN (hr.put (by obtain⟨_,_,_,_,e,_,h5⟩:=bC fW;cases e;exact h5) nO gl) (le.trans nO) (fr.trans tp)
   rwa[jH,cF (gN fW)]at this
  ·obtain⟨x,l',gr,oper,rfl,oM,h3,hh,h4⟩:=iW h1 h2
   have DR:x.o.d=d:=by rw[oM]
   cases he:x.early with
   | true =>
    have:=(hh.kl he).1
    rw[oM]at this
    exact absurd (by cases d<;>rfl) this
   | false =>
    refine fA (Tl:=fun R' H2=>∃v,ov H b bi es ix v H2∧R'=bE R d v) hh he (dh ord pre _ h1) (dD gr _ l' h4) ?_ ?_ fuel L g a w hl hd
    ·rintro R' H'⟨v,hM,rfl⟩ fuel L' g' a' w' hL iu
     exact(ih v H' hM).2 w0 n ops mu df mk g0 ws H0 _ L' g' a' w' gr l' r fuel (A3 hd iu ck) h4 h3 iu hL
    ·intro L2 g2 a2 w2 cz hp K hK
     have MV:gM P g2:=A3 hd cz ck
     have fW:=hh.co
     have qy:=cz.fB hh hp
     rw[oM]at fW qy
     obtain⟨t,H',u,w',g',hM,b0,nO,jN,gl,tp⟩:=xQ (r:=r) hh.ho fW cz.xg qy hg cz.sr hx hb
     refine b0 _ _ (hK _ H' g' _ w' ⟨t,hM,rfl⟩ ?_)
     have cO:=cz.stays hh he hp (H':=H') (by rw[oM];exact hs t H' hM)
     have:=cz.both hh he hp nO jN gl tp cO
     rwa[DR]at this
 | @shr f as H Q M _ h2 ih =>
  intro w0 g w args ck sr hv
  obtain⟨kR,hc⟩:=ih w0 g w args ck sr hv
  refine⟨kR,hc.mono fun e w3 ⟨v,t,g3,H3,he,hM,A2,CM,gl,DN⟩=>?_⟩
  obtain⟨t',b,cs,k,ht,iP,hb,hq⟩:=h2 _ _ hM
  cases ht
  have hφ:∃x,g3.φ b=some x:=by
   cases gl with
   | aA h=>simp only[AE]at iP;subst iP;exact⟨_,h⟩
   | bJ hl h2 =>
    obtain⟨off,len,n,hm⟩:=iP
    obtain⟨i,hi⟩:=List.mem_iff_getElem?.1 hm
    have al:=(List.getElem?_eq_some_iff.1 hi).1
    obtain⟨u,hu⟩:∃u,(Array.mk _)[i]?=some u:=⟨_,Array.getElem?_eq_getElem (Nat.lt_of_lt_of_eq al hl.symm)⟩
    have:=h2 i _ _ hi hu
    cases this with
    | aA h=>exact⟨_,h⟩
   | _=>exact iP.elim
  obtain⟨Jp,DP⟩:=CM.shrink k hb hφ
  exact⟨v,_,g3,_,he,hq,A2,Jp,gl,DN.trans DP⟩
 | @R9 f as H Q fn M hf hn _ h2 ih =>
  intro w0 g w args ck sr hv
  obtain⟨an,y9⟩:=hE.fn f fn hf
  obtain⟨F,code,res,body,hF,hb,sk,vL,kR,a7,al,rfl⟩:=sn y9
  refine⟨kR,callsIn_of_wp_marks hF hb trivial ?_⟩
  have OY:=su (F:=F) hv hn a7
  refine wpIn_mono (ih w0 g w _ F.ntmps an true code none vL (fun _=>rfl) ck sr OY).1 fun e a' w' EX=>?_
  obtain⟨ex,R',g',H',e1,hm,le,jN,pt,fr,xf,_⟩:=EX
  obtain⟨R2,bs,hex,TB,fh,KM,v0,OZ,hq⟩:=h2 _ _ hm
  have Zg:Mk g (hU as F.ntmps) []:=⟨[],by simp only[hU];rw[List.getD_eq_getElem?_getD,List.getElem?_eq_none (by simp only at hn;omega)];rfl,.nil⟩
  obtain⟨ts,CC,hmo⟩:=xf Zg
  have vT:R2=R'→LeavesInM (Fw none) 0 P F a'.tmps (uE w0 g w H fun v H'=>Q (.val v) H') a'.defers .returning w':=by
   rintro rfl
   simp only at TB hq OZ
   rw[CC]at TB
   refine vR ts a'.defers bs g' H' w' R2 a' _ hmo TB fh KM jN pt (fun w2 v KL MU _ A1 _ gl=>⟨v,_,g',_,rfl,hq,le.trans KL,MU,gl,fr.trans A1⟩) OZ fun g w H sr hr ht=>sm (P:=P) sr sk al hr ht
  cases e<;>simp only[tR,Option.some.injEq,reduceCtorEq]at e1<;>subst e1
  case normal=>rcases hex with hex|hex<;>cases hex;exact vT rfl
  case exit id=>rcases hex with hex|hex<;>cases hex
  case ret=>rcases hex with hex|hex<;>cases hex;exact vT rfl
 | @fn f as H Q fn M hf hnr hn _ h2 ih =>
  intro w0 g w args ck sr hv
  obtain⟨an,y9⟩:=hE.fn f fn hf
  obtain⟨F,code,res,body,hF,hb,sk,vL,kR,a7,al,rfl⟩:=sn y9
  refine⟨kR,callsIn_of_wp hF hb trivial ?_⟩
  have OY:=su (F:=F) hv hn a7
  refine wpIn_mono (ih w0 g w _ F.ntmps an true code none vL (fun _=>rfl) ck sr OY).1 fun e a' w' EX=>?_
  obtain⟨ex,R',g',H',e1,hm,le,jN,pt,fr,_,A4⟩:=EX
  obtain⟨R2,hex,v0,OZ,hq⟩:=h2 _ _ hm
  have vT:∀(R2:aw),R2=R'→qG R2 H' res=some v0→a'.defers=[]∧∃v,(results F a'.tmps).run P w'=.ok v w'∧uE w0 g w H (fun v H'=>Q (.val v) H') (.returned v) w':=by
   rintro R2 rfl OZ
   obtain⟨v,cA,gl⟩:=sm (P:=P) jN sk al pt OZ
   exact⟨(A4 hnr).2,v,cA,v,_,g',H',rfl,hq,le,jN,gl,fr⟩
  cases e<;>simp only[tR,Option.some.injEq,reduceCtorEq]at e1<;>subst e1
  case normal=>rcases hex with hex|hex<;>cases hex;exact vT _ rfl OZ
  case exit id=>rcases hex with hex|hex<;>cases hex
  case ret=>rcases hex with hex|hex<;>cases hex;exact vT _ rfl OZ
 | @Ce f as H Q b off len n i M hi _ h2 ih =>
  intro w0 g w args ck sr hv
  have al:=(List.getElem?_eq_some_iff.1 hi).1
  have hl:=hv.1
  have TG:=hv.2 i _ _ hi (List.getElem?_eq_getElem (by omega))
  have hex:∃c,len≤c∧VR g w (.eH b off len n c) (args[i]'(by omega)):=by
   generalize args[i]'(by omega)=u at TG
   cases TG with
   | aA h hc hq=>exact⟨_,hc,.eH h hc hq⟩
  obtain⟨c,hc,Jk⟩:=hex
  have Kw:bL g w (as.set i (.eH b off len n c)) args:=⟨by simp[hl],fun j t v ha hb=>by
   by_cases e:j=i
   ·subst e
    rw[List.getElem?_set_self al]at ha
    cases ha
    rw[List.getElem?_eq_getElem (by omega)]at hb
    cases hb
    exact Jk
   ·rw[List.getElem?_set_ne (Ne.symm e)]at ha
    exact hv.2 j t v ha hb⟩
  obtain⟨kR,vL⟩:=ih c hc w0 g w args ck sr Kw
  refine⟨kR,vL.mono fun e w3 ⟨v,t,g3,H3,he,hM,A2,CM,gl,DN⟩=>?_⟩
  exact⟨v,_,g3,H3,he,h2 _ _ hM,A2,CM,gl.xd,DN⟩
 | @qV f as H Q M _ h2 ih =>
  intro w0 g w args ck sr hv
  obtain⟨kR,hc⟩:=ih w0 g w args ck sr hv
  refine⟨kR,hc.mono fun e w3 ⟨v,t,g3,H3,he,hM,A2,CM,gl,DN⟩=>?_⟩
  obtain⟨t',b,cs,ht,iP,hb,hq⟩:=h2 _ _ hM
  cases ht
  have hφ:∃x,g3.φ b=some x:=by
   cases gl with
   | aA h=>simp only[AE]at iP;subst iP;exact⟨_,h⟩
   | bJ hl h2 =>
    obtain⟨off,len,n,hm⟩:=iP
    obtain⟨i,hi⟩:=List.mem_iff_getElem?.1 hm
    have al:=(List.getElem?_eq_some_iff.1 hi).1
    obtain⟨u,hu⟩:∃u,(Array.mk _)[i]?=some u:=⟨_,Array.getElem?_eq_getElem (Nat.lt_of_lt_of_eq al hl.symm)⟩
    have:=h2 i _ _ hi hu
    cases this with
    | aA h=>exact⟨_,h⟩
   | _=>exact iP.elim
  obtain⟨g4,Jo,Jp,DP,O0⟩:=CM.freeze hb hφ
  exact⟨v,_,g4,_,he,hq,A2.trans Jo,Jp,O0 _ _ gl,DN.trans DP⟩
 | @D6 f as H Q b off len n cs i hi hb _ ih =>
  intro w0 g w args ck sr hv
  have al:=(List.getElem?_eq_some_iff.1 hi).1
  have hl:=hv.1
  have TG:=hv.2 i _ _ hi (List.getElem?_eq_getElem (by omega))
  have hφ:∃x,g.φ b=some x:=by
   generalize args[i]'(by omega)=u at TG
   cases TG with
   | aA h=>exact⟨_,h⟩
  obtain⟨g4,Jo,Jp,DP,O0⟩:=sr.freeze hb hφ
  have Kw:bL g4 w (as.map (D5 b cs)) args:=⟨by simp[hl],fun j t v ha iB=>by
   rw[List.getElem?_map]at ha
   obtain⟨t0,h0,rfl⟩:=Option.map_eq_some_iff.1 ha
   exact O0 _ _ (hv.2 j t0 v h0 iB)⟩
  obtain⟨kR,hc⟩:=ih w0 g4 w args (ck.mono Jo) Jp Kw
  exact⟨kR,hc.mono fun e w3 ⟨v,t,g3,H3,he,hM,A2,CM,gl,DN⟩=>⟨v,t,g3,H3,he,hM,Jo.trans A2,CM,gl,DP.trans DN⟩⟩
 | @px f as H Q h =>
  intro w0 g w args ck sr hv
  exact hE.px f as H _ h w0 g w args sr hv
inductive Sh where
 | int (k:IntKind)|str|bool
 | sl (l:List Sh)
 | ag (l:List Sh)
def CN (P:Program)(f:TypeId→Option (List Sh)):List Field→Nat→Option (List Sh)
 | [],_=>some []
 | x :: xs,off=>match f x.type with
  | some l=>if x.offset=off∧l.length=P.cellsOf x.type then(CN P f xs (off+l.length)).map (l++·)else none
  | none=>none
def A5 (k:Nat)(e:TypeId)(c:Nat):List Field:=(List.range k).map fun i=>{ (default:Field)with type:=e,offset:=i*c }
def tT (P:Program):Nat→TypeId→Option (List Sh)
 | 0,_=>none
 | n+1,t=>match P.underlying t with
  | some .bool=>some [.bool]
  | some (.int k)=>some [.int k]
  | some .string=>some [.str]
  | some (.slice e)=>match tT P n e with
   | some l=>if l.length=P.cellsOf e∧l.length≠0 then some [.sl l]else none
   | none=>none
  | some (.struct fs)=>match CN P (tT P n) fs.toList 0 with
   | some l=>if l.length=P.cellsOf t then some l else none
   | none=>none
  | some (.array k e)=>match CN P (tT P n) (A5 k e (P.cellsOf e)) 0 with
   | some l=>if l.length=P.cellsOf t then some l else none
   | none=>none
  | _=>none
inductive e9 (B:Nat):Sh→T→Prop
 | int {k n} (h:(Lit.int k n).wf=true):e9 B (.int k) (.int k n)
 | bool (b):e9 B .bool (.bool b)
 | str {s:ByteArray} (h:s.size≤maxLen) (hB:s.size≤B):e9 B .str (.str s)
 | nil {l}:e9 B (.sl l) (.sl .nil [])
 | sl {l es} (hl:es.length≤maxLen) (hB:es.length≤B) (h0:∀c∈es,c.length=l.length) (h:∀c∈es,∀(j:Nat) (s:Sh) (t:T),l[j]?=some s→c[j]?=some t→e9 B s t):e9 B (.sl l) (.sl .arg es)
 | ag {l cs} (hl:cs.length=l.length) (h:∀(j:Nat) (s:Sh) (t:T),l[j]?=some s→cs[j]?=some t→e9 B s t):e9 B (.ag l) (.agg cs)
mutual
def T.bk:T→Nat
 | .str s=>s.size+1
 | .sl _ es=>DS es+1
 | _=>1
def pW:List T→Nat
 | []=>0
 | t :: ts=>t.bk+pW ts
def DS:List (List T)→Nat
 | []=>0
 | c :: es=>pW c+DS es
end
theorem KO (a b:List T):pW (a++b)=pW a+pW b:=by
 induction a with
 | nil=>simp[pW]
 | cons t a ih=>simp only[List.cons_append,pW,ih];omega
mutual
def b6 {H:Type}:DataW H→Nat
 | .lit (.string bytes)=>bytes.length+1
 | .lit _=>1
 | .nil=>1
 | .ptr d=>b6 d+1
 | .slice elems spare=>bX elems+bX spare+1
 | .agg parts=>bX parts+1
 | .iface _ d=>b6 d+1
 | .map entries=>fO entries+1
 | .held _=>1
def bX {H:Type}:List (DataW H)→Nat
 | []=>0
 | d :: r=>b6 d+bX r
def fO {H:Type}:List (Lit×DataW H)→Nat
 | []=>0
 | x :: r=>nP x+fO r
def nP {H:Type}:Lit×DataW H→Nat
 | (.string bytes,d)=>bytes.length+b6 d+1
 | (_,d)=>b6 d+1
end
theorem mc {H:Type}(d:DataW H):1≤b6 d:=by
 cases d with
 | lit l=>cases l<;>simp[b6]
 | _=>simp[b6]
theorem pX {H:Type}{d:DataW H}{l:List (DataW H)}(h:d∈l):b6 d≤bX l:=by
 induction l with
 | nil=>cases h
 | cons x r ih =>
  simp only[bX]
  rcases List.mem_cons.1 h with rfl|h
  ·omega
  ·have:=ih h;omega
theorem EY {H:Type}:∀(es:List (List T)) (ds:List (DataW H)),es.length≤ds.length→(∀(i:Nat) c d,es[i]?=some c→ds[i]?=some d→pW c≤b6 d)→DS es≤bX ds
 | [],_,_,_=>by simp[DS]
 | c :: es,[],h,_=>by simp at h
 | c :: es,d :: ds,h,hk=>by
  have h1:=hk 0 c d rfl rfl
  have h2:=EY es ds (by simpa using h) fun i c d a b=>hk (i+1) c d (by simpa using a) (by simpa using b)
  simp only[DS,bX];omega
theorem EZ {H:Type}(l:List (DataW H)):l.length≤bX l:=by
 induction l with
 | nil=>simp
 | cons x r ih=>have:=mc x;simp only[bX,List.length_cons];omega
def g0 (P:Program)(W:World):Ctx:=⟨fun _=>none,fun r _=>if r<W.heap.size then .nf else .free,fun _ _=>none,fun n c k=>∃an,bG P n an false k=some c⟩
theorem sr0 (P:Program)(W:World):SR W (g0 P W) [] W where
 size:=Nat.le_refl _
 kz _ _:=rfl
 Ch r o h:=by simp[g0,h]
 fresh r o h:=by simp only[g0];rw[if_neg (by omega)]
 tE b x h:=by simp[g0]at h
 jF t e x h:=by simp[g0]at h
 eG b x h:=by simp at h
 qV r j h:=dC h
 env:=⟨rfl,rfl⟩
theorem ck0 (P:Program)(W:World):gM P (g0 P W):=fun _ _ _=>Iff.rfl
theorem A6 {α:Type}{Q:Nat→α→Prop}:∀(n:Nat),(∀i,i<n→∃c,Q i c)→∃l:List α,l.length=n∧∀(i:Nat) (c:α),l[i]?=some c→Q i c
 | 0,_=>⟨[],rfl,by simp⟩
 | n+1,h=>by
  obtain⟨l,hl,hq⟩:=A6 n fun i hi=>h i (by omega)
  obtain⟨c,hc⟩:=h n (by omega)
  refine⟨l++[c],by simp[hl],fun i d hd=>?_⟩
  by_cases hi:i<n
  ·rw[List.getElem?_append_left (by omega)]at hd;exact hq i d hd
  ·rw[List.getElem?_append_right (by omega)]at hd
   have:i=n:=by
    have:=(List.getElem?_eq_some_iff.1 hd).1;simp at this;omega
   subst this;simp[hl]at hd;subst hd;exact hc
section
variable {H:Type} {enc:TypeId×Value→H} {P:Program} {W:World} {held:Bool} {B:Nat}
theorem xW {a:Addr}{n:Nat}{cs:List Value}(h:W.cells? 0 a n=some cs):cs.length=n∧∀(j:Nat) (v:Value),cs[j]?=some v→W.cell? (a.add j)=some v:=by
 unfold World.cells? at h
 rw[if_pos (Nat.zero_le _)]at h
 have key:∀(n:Nat) (cs:List Value),(List.range n).mapM (fun i=>W.cell? (a.add i))=some cs→cs.length=n∧∀(j:Nat) (v:Value),cs[j]?=some v→W.cell? (a.add j)=some v:=by
  intro n
  induction n with
  | zero=>intro cs h;simp at h;subst h;simp
  | succ n ih =>
   intro cs h
   rw[List.range_succ,List.mapM_append]at h
   cases h1:(List.range n).mapM (fun i=>W.cell? (a.add i))with
   | none=>simp[h1]at h
   | some l =>
    cases h2:W.cell? (a.add n)with
    | none=>simp[h1,h2]at h
    | some v =>
     simp[h1,h2]at h
     subst h
     obtain⟨k1,k2⟩:=ih l h1
     refine⟨by simp[k1],fun j u hj=>?_⟩
     by_cases zw:j<n
     ·rw[List.getElem?_append_left (by omega)]at hj;exact k2 j u hj
     ·rw[List.getElem?_append_right (by omega)]at hj
      have:j=n:=by
       have:=(List.getElem?_eq_some_iff.1 hj).1;simp at this;omega
      subst this;simp[k1]at hj;subst hj;exact h2
 exact key n cs h
def Reads (enc:TypeId×Value→H)(P:Program)(W:World)(held:Bool)(B:Nat)(t:TypeId)(l:List Sh):Prop :=
 ∀fuel cs d ps,DataW.trod enc P W 0 (fun _=>true) held fuel t cs=some (d,ps)→b6 d≤B→cs.length=l.length∧∃ts:List T,bL (g0 P W) W ts cs∧cD ts∧(∀(j:Nat) (s:Sh) (t:T),l[j]?=some s→ts[j]?=some t→e9 B s t)∧pW ts≤b6 d
theorem kV {f:TypeId→Option (List Sh)}{n:Nat}{cs:List Value}:∀(fs:List Field) (off:Nat) (l:List Sh) (xs:List (DataW H×List MemPlace)),CN P f fs off=some l→(∀x∈fs,∀l',f x.type=some l'→Reads enc P W held B x.type l') →
  xs.length=fs.length→(∀(i:Nat) (x:Field),fs[i]?=some x→DataW.trod enc P W 0 (fun _=>true) held n x.type ((cs.drop x.offset).take (P.cellsOf x.type))=xs[i]?)→(∀x∈xs,b6 x.1≤B)→off+l.length≤cs.length →
  ∃ts:List T,bL (g0 P W) W ts ((cs.drop off).take l.length)∧cD ts∧(∀(j:Nat) (s:Sh) (t:T),l[j]?=some s→ts[j]?=some t→e9 B s t)∧pW ts≤bX (xs.map (·.1))
 | [],off,l,xs,h,_,_,_,_,_=>by
  simp only[CN,Option.some.injEq]at h;subst h
  exact⟨[],by simpa using bL.nil,by simp[cD],by simp,by simp[pW]⟩
 | x :: fs,off,l,xs,h,hr,hl,ht,hb,hle=>by
  simp only[CN]at h
  split at h
  ·rename_i l1 h1
   split at h
   ·rename_i hc
    simp only[Option.map_eq_some_iff]at h
    obtain⟨l2,h2,rfl⟩:=h
    cases xs with
    | nil=>simp at hl
    | cons y xs =>
     have t0:=ht 0 x rfl
     simp only[List.getElem?_cons_zero]at t0
     obtain⟨d,ps⟩:=y
     obtain⟨a1,ts1,a2,a3,a4,a5⟩:=hr x (by simp) l1 h1 n _ d ps t0 (hb (d,ps) (by simp))
     obtain⟨ts2,b2,b3,b4,b5⟩:=kV fs (off+l1.length) l2 xs h2 (fun z hz=>hr z (by simp[hz])) (by simpa using hl) (fun i z hz=>by have:=ht (i+1) z (by simpa using hz);simpa using this) (fun z hz=>hb z (by simp[hz])) (by simp at hle;omega)
     have e1:(cs.drop off).take (l1++l2).length=(cs.drop x.offset).take (P.cellsOf x.type)++(cs.drop (off+l1.length)).take l2.length:=by
      rw[hc.1,←hc.2,List.length_append,List.take_add,List.drop_drop]
     have TH:ts1.length=l1.length:=by rw[a2.1,a1]
     refine⟨ts1++ts2,by rw[e1];exact a2.append b2,fun t ht=>?_,fun j s t hs ht=>?_,by rw[KO];simp only[List.map_cons,bX];omega⟩
     ·rcases List.mem_append.1 ht with h|h
      ·exact a3 t h
      ·exact b3 t h
     ·by_cases hj:j<l1.length
      ·rw[List.getElem?_append_left hj]at hs
       rw[List.getElem?_append_left (by omega)]at ht
       exact a4 j s t hs ht
      ·rw[List.getElem?_append_right (by omega)]at hs
       rw[List.getElem?_append_right (by omega),TH]at ht
       exact b4 _ s t hs ht
   ·cases h
  ·cases h
theorem O1 {r o:Nat}{v:Value}(h:W.cell? ⟨r,o,none⟩=some v):Cf (g0 P W) W r o v:=⟨by simp[g0,kC h],h⟩
theorem reads:∀(n:Nat) (t:TypeId) (l:List Sh),tT P n t=some l→Reads enc P W held B t l
 | 0,_,_,h=>by simp[tT]at h
 | n+1,t,l,h=>by
  intro fuel cs d ps hd hb
  simp only[tT]at h
  split at h
  ·rename_i hu;cases h
   obtain⟨b,rfl,hx⟩:=DataW.trod_bool hu hd
   exact⟨rfl,[.bool b],bL.cons (.bool b) bL.nil,by simp[cD,T.one],fun j s t hs ht=>by cases j with
    | zero=>simp at hs ht;subst hs;subst ht;exact .bool b
    | succ j=>simp at hs,by have:=mc d;simp only[pW,T.bk];omega⟩
  ·rename_i k hu;cases h
   obtain⟨m,rfl,hx,hw⟩:=DataW.trod_int hu hd
   exact⟨rfl,[.int k m],bL.cons (.int k m) bL.nil,by simp[cD,T.one],fun j s t hs ht=>by cases j with
    | zero=>simp at hs ht;subst hs;subst ht;exact .int hw
    | succ j=>simp at hs,by have:=mc d;simp only[pW,T.bk];omega⟩
  ·rename_i hu;cases h
   obtain⟨s,rfl,hx,hw⟩:=DataW.trod_string hu hd
   cases hx
   exact⟨rfl,[.str s],bL.cons (.str s) bL.nil,by simp[cD,T.one],fun j s' t hs ht=>by cases j with
    | zero=>simp at hs ht;subst hs;subst ht;exact .str hw (by simp[b6]at hb;have:s.data.size=s.size:=rfl;omega)
    | succ j=>simp at hs,by simp only[pW,T.bk,b6];have:s.data.size=s.size:=rfl;simp⟩
  ·rename_i e hu
   split at h
   ·rename_i le he
    split at h
    ·rename_i hc
     cases h
     have ih:=reads n e le he
     rcases DataW.trod_slice hu hd with⟨rfl,hx⟩|⟨a,len,cap,elems,rest,m,_,rfl,hx,_,h1,h2,h3,h4,h5,_⟩
     ·exact⟨rfl,[.sl .nil []],bL.cons .slnil bL.nil,by simp[cD,T.one],fun j s t hs ht=>by cases j with
       | zero=>simp at hs ht;subst hs;subst ht;exact .nil
       | succ j=>simp at hs,by have:=mc d;simp only[pW,T.bk,DS];omega⟩
     ·cases hx
      have TI:∀x∈elems,b6 x.1≤B:=fun x hx=>by
       have:=pX (List.mem_map_of_mem (f:=(·.1)) hx);simp only[b6]at hb;omega
      have hlB:len≤B:=by
       have:=EZ (elems.map (·.1));simp only[b6]at hb;simp at this;omega
      have EA:∀i,i<len→∃c:List T,c.length=le.length∧∃us,W.cells? 0 (a.add (i*P.cellsOf e)) (P.cellsOf e)=some us∧bL (g0 P W) W c us∧cD c∧(∀(j:Nat) (s:Sh) (t:T),le[j]?=some s→c[j]?=some t→e9 B s t)∧∀d,(elems.map (·.1))[i]?=some d→pW c≤b6 d:=by
       intro i hi
       have hk:=h4 i hi
       have kD:i<elems.length:=by omega
       rw[List.getElem?_eq_getElem kD]at hk
       obtain⟨us,k1,k2⟩:=Option.bind_eq_some_iff.1 hk
       obtain⟨q1,ts,q2,q3,q4,q5⟩:=ih m us elems[i].1 elems[i].2 k2 (TI _ (List.getElem_mem kD))
       exact⟨ts,by rw[q2.1,q1],us,k1,q2,q3,q4,fun d hd=>by rw[List.getElem?_map,List.getElem?_eq_getElem kD]at hd;simp only[Option.map_some,Option.some.injEq]at hd;subst hd;exact q5⟩
      obtain⟨es,he1,MW⟩:=A6 len EA
      have KP:e9 B (.sl le) (.sl .arg es):=.sl (by omega) (by omega) (fun c hc=>by
       obtain⟨i,hi,rfl⟩:=List.getElem_of_mem hc
       exact(MW i _ (List.getElem?_eq_getElem hi)).1) (fun c hc=>by
       obtain⟨i,hi,rfl⟩:=List.getElem_of_mem hc
       obtain⟨_,_,_,_,_,q,_⟩:=MW i _ (List.getElem?_eq_getElem hi)
       exact q)
      have gl:VR (g0 P W) W (.sl .arg es) (.slice (some a) len cap):=by
       by_cases oB:cap=0
       ·have:len=0:=by omega
        subst this;subst oB
        have:es=[]:=List.eq_nil_of_length_eq_zero he1
        subst this;exact .jr _
       ·have MX:a.spot=none:=by
         have lX:∃us,W.cells? 0 (a.add (0*P.cellsOf e)) (P.cellsOf e)=some us:=by
          by_cases hl:0<len
          ·obtain⟨_,_,us,k,_⟩:=EA 0 hl;exact⟨us,k⟩
          ·have h0:len=0:=by omega
           obtain⟨k1,k2⟩:=h5 rfl
           have:=k2 0 (by omega)
           have hr:0<rest.length:=by omega
           rw[List.getElem?_eq_getElem hr,h0]at this
           obtain⟨us,k3,_⟩:=Option.bind_eq_some_iff.1 this
           exact⟨us,by simpa using k3⟩
         obtain⟨us,hus⟩:=lX
         obtain⟨k1,k2⟩:=xW hus
         have OB:0<us.length:=by omega
         have nG:=k2 0 us[0] (List.getElem?_eq_getElem OB)
         unfold World.cell? at nG
         split at nG
         ·split at nG
          ·cases nG
          ·rename_i AJ;simpa[Addr.add]using AJ
         ·cases nG
        obtain⟨r,o,sp⟩:=a
        simp only at MX;subst MX
        rw[←he1]
        have hn:∀c∈es,c.length=le.length:=fun c hc=>by
         obtain⟨i,hi,rfl⟩:=List.getElem_of_mem hc
         exact(MW i _ (List.getElem?_eq_getElem hi)).1
        have lX:∀(i j:Nat) (c:List T) (t:T),es[i]?=some c→c[j]?=some t→∃v,W.cell? ⟨r,o+i*le.length+j,none⟩=some v∧VR (g0 P W) W t v∧t.one=true:=by
         intro i j c t hi hj
         obtain⟨q1,us,q2,q3,q4,_⟩:=MW i c hi
         obtain⟨k1,k2⟩:=xW q2
         have hju:j<us.length:=by rw[←q3.1];exact(List.getElem?_eq_some_iff.1 hj).1
         refine⟨us[j],?_,q3.2 j t _ hj (List.getElem?_eq_getElem hju),q4 t (List.mem_of_getElem? hj)⟩
         have:=k2 j us[j] (List.getElem?_eq_getElem hju)
         rw[←hc.1,du,du]at this
         exact this
        refine .sl (n:=le.length) (fun i j=>(W.cell? ⟨r,o+i*le.length+j,none⟩).getD undef) trivial (by omega) hn (fun i j c t hi hj=>?_) (fun i j c t hi hj=>?_)
        ·obtain⟨v,q1,q2,q3⟩:=lX i j c t hi hj
         exact⟨q3,by rw[q1];exact O1 q1⟩
        ·obtain⟨v,q1,q2,q3⟩:=lX i j c t hi hj
         rw[q1];exact q2
      exact⟨rfl,[.sl .arg es],bL.cons gl bL.nil,by simp[cD,T.one],fun j s t hs ht=>by cases j with
       | zero=>simp at hs ht;subst hs;subst ht;exact KP
       | succ j=>simp at hs,by
       have Sr:=EY es (elems.map (·.1)) (by simp;omega) fun i c d hc hd=>by
        obtain⟨_,_,_,_,_,_,q⟩:=MW i c hc
        exact q d hd
       simp only[pW,T.bk,b6];omega⟩
    ·cases h
   ·cases h
  ·rename_i fs hu
   split at h
   ·rename_i l' zH
    split at h
    ·rename_i hc
     cases h
     obtain⟨xs,m,_,hx,k1,k2,k3⟩:=DataW.trod_struct hu hd
     cases hx
     have TI:∀x∈xs,b6 x.1≤B:=fun x hx=>by
      have:=pX (List.mem_map_of_mem (f:=(·.1)) hx);simp only[b6]at hb;omega
     obtain⟨ts,a1,a2,a3,a4⟩:=kV (n:=m) (cs:=cs) fs.toList 0 l xs zH (fun x _ l2 h2=>reads n x.type l2 h2) (by simpa using k2) (fun i x hi=>k3 i x (by simpa using hi)) TI (by omega)
     have e1:(cs.drop 0).take l.length=cs:=by rw[List.drop_zero,hc,←k1];simp
     rw[e1]at a1
     exact⟨by omega,ts,a1,a2,a3,by simp only[b6];omega⟩
    ·cases h
   ·cases h
  ·rename_i k e hu
   split at h
   ·rename_i l' zH
    split at h
    ·rename_i hc
     cases h
     obtain⟨xs,m,_,hx,k1,k2,k3⟩:=DataW.trod_array hu hd
     cases hx
     have TI:∀x∈xs,b6 x.1≤B:=fun x hx=>by
      have:=pX (List.mem_map_of_mem (f:=(·.1)) hx);simp only[b6]at hb;omega
     obtain⟨ts,a1,a2,a3,a4⟩:=kV (n:=m) (cs:=cs) (A5 k e (P.cellsOf e)) 0 l xs zH (fun x hx l2 h2=>by
      obtain⟨i,_,rfl⟩:=List.mem_map.1 hx;exact reads n e l2 h2) (by rw[k2];simp[A5]) (fun i x hi=>by
      simp only[A5,List.getElem?_map,Option.map_eq_some_iff]at hi
      obtain⟨j,hj,rfl⟩:=hi
      obtain⟨h1,h2⟩:=List.getElem?_eq_some_iff.1 hj
      rw[List.getElem_range]at h2
      subst h2
      exact k3 i (by simpa using h1)) TI (by omega)
     have e1:(cs.drop 0).take l.length=cs:=by rw[List.drop_zero,hc,←k1];simp
     rw[e1]at a1
     exact⟨by omega,ts,a1,a2,a3,by simp only[b6];omega⟩
    ·cases h
   ·cases h
  ·cases h
def E0 (P:Program)(t:TypeId):Option Sh:=match P.underlying t with
 | some .bool|some (.int _)|some .string|some (.slice _)=>match tT P 9 t with
  | some [s]=>some s
  | _=>none
 | some (.struct _)|some (.array _ _)=>match tT P 9 t with
  | some l=>some (.ag l)
  | none=>none
 | _=>none
def sz (P:Program):List TypeId→Option (List Sh)
 | []=>some []
 | t :: ts=>match E0 P t,sz P ts with
  | some s,some l=>some (s :: l)
  | _,_=>none
inductive pY (B:Nat):List Sh→List T→Prop
 | nil:pY B [] []
 | cons {s t ss ts} (h:e9 B s t) (hs:pY B ss ts):pY B (s :: ss) (t :: ts)
theorem E1 {base:Nat}{t:TypeId}{s:Sh}{v:Value}{d:DataW H}{p:List MemPlace}(h:E0 P t=some s)(hv:Value.okWide P W .any base t v)(hf:DataW.Trod enc P W 0 (fun _=>true) held t v d p)(hB:b6 d≤B) :
  ∃u:T,VR (g0 P W) W u v∧e9 B s u∧u.bk≤b6 d:=by
 obtain⟨fuel,hf⟩:=hf
 have one:(∀cs,v≠.agg cs)→v.cells.toList=[v]:=by
  intro h;cases v<;>first|rfl|exact absurd rfl (h _)
 have sc:v.cells.toList=[v]→(match tT P 9 t with|some [s]=>some s|_=>none)=some s→∃u:T,VR (g0 P W) W u v∧e9 B s u∧u.bk≤b6 d:=by
  intro Zh h
  split at h
  ·rename_i s' h3
   cases h
   obtain⟨c1,us,c2,c3,c4,c5⟩:=reads (B:=B) 9 t [s] h3 fuel _ d p hf hB
   rw[Zh]at c2
   have hul:us.length=1:=by have:=c2.1;simpa using this
   obtain⟨u,rfl⟩:∃u,us=[u]:=by
    cases us with
    | nil=>simp at hul
    | cons u us'=>cases us' with
     | nil=>exact⟨u,rfl⟩
     | cons _ _=>simp at hul
   exact⟨u,c2.head,c4 0 s u rfl rfl,by simp only[pW]at c5;omega⟩
  ·cases h
 have ag:(∃cs,v=.agg cs)→(match tT P 9 t with|some l=>some (Sh.ag l)|none=>none)=some s→∃u:T,VR (g0 P W) W u v∧e9 B s u∧u.bk≤b6 d:=by
  rintro⟨cs,rfl⟩ h
  split at h
  ·rename_i l h3
   cases h
   obtain⟨c1,us,c2,c3,c4,c5⟩:=reads (B:=B) 9 t l h3 fuel _ d p hf hB
   have hc:(Value.agg cs).cells.toList=cs.toList:=rfl
   rw[hc]at c1 c2
   refine⟨.agg us,.agg (by have:=c2.1;simpa using this.symm) c3 (fun i t v a b=>c2.2 i t v a (by simpa using b)),.ag (by rw[c2.1,c1]) c4,by have:=mc d;simp only[T.bk];omega⟩
  ·cases h
 simp only[E0]at h
 split at h
 ·rename_i hu
  exact sc (one (by rintro cs rfl;simp[Value.okWide,hu,Cell.okWide,Cell.ok]at hv)) h
 ·rename_i hu
  exact sc (one (by rintro cs rfl;simp[Value.okWide,hu,Cell.okWide,Cell.ok]at hv)) h
 ·rename_i hu
  exact sc (one (by rintro cs rfl;simp[Value.okWide,hu,Cell.okWide,Cell.ok]at hv)) h
 ·rename_i hu
  exact sc (one (by rintro cs rfl;simp[Value.okWide,hu,Cell.okWide,Cell.ok]at hv)) h
 ·rename_i hu
  exact ag (by cases v<;>first|exact⟨_,rfl⟩|simp[Value.okWide,hu]at hv) h
 ·rename_i hu
  exact ag (by cases v<;>first|exact⟨_,rfl⟩|simp[Value.okWide,hu]at hv) h
 ·cases h
theorem uK {base:Nat}:∀(ts:List TypeId) (KQ:List Sh) (args:List Value) (ds:List (DataW H)) (p:List MemPlace),sz P ts=some KQ→(∀(j:Nat) t v,ts[j]?=some t→args[j]?=some v→Value.okWide P W .any base t v) →
  DataW.TrodAll enc P W 0 (fun _=>true) held ts args ds p→bX ds≤B→∃as:List T,bL (g0 P W) W as args∧pY B KQ as∧pW as≤bX ds
 | [],KQ,args,ds,p,h,_,hA,_=>by
  cases args<;>cases ds<;>simp[DataW.TrodAll]at hA
  simp only[sz,Option.some.injEq]at h;subst h
  exact⟨[],bL.nil,.nil,by simp[pW]⟩
 | t :: ts,KQ,args,ds,p,h,CO,hA,hB=>by
  cases args with
  | nil=>cases ds<;>simp[DataW.TrodAll]at hA
  | cons v args =>
   cases ds with
   | nil=>simp[DataW.TrodAll]at hA
   | cons d ds =>
    obtain⟨p,q,hf,h2,_⟩:=hA
    simp only[sz]at h
    split at h
    ·rename_i s l h3 h4
     cases h
     simp only[bX]at hB
     obtain⟨as,b1,b2,b3⟩:=uK ts l args ds q h4 (fun j t v a b=>CO (j+1) t v (by simpa using a) (by simpa using b)) h2 (by omega)
     obtain⟨u,c1,c2,c3⟩:=E1 (B:=B) (base:=base) (d:=d) (p:=p) h3 (CO 0 t v rfl rfl) hf (by omega)
     refine⟨u :: as,bL.cons c1 b1,.cons c2 b2,?_⟩
     show T.bk u+pW as≤b6 d+bX ds
     omega
    ·cases h
end
end Go.Rmp
end

section
namespace Go.Rmp
open Go.ChangeShapes Go.RowKit
section
variable {H:Type} {enc:TypeId×Value→H} {P:Program} {W W':World}
theorem nA {sp:Nat→Bool}{held:Bool}:∀(ts:List TypeId) (vs:List Value) (ds:List (DataW H)) (ps:List MemPlace),DataW.TrodAll enc P W 0 sp held ts vs ds ps→(∀p∈ps,W.sameAt W' p)→DataW.TrodAll enc P W' 0 sp held ts vs ds ps
 | [],[],[],_,h,_=>h
 | t :: ts,v :: vs,d :: ds,ps,⟨p,q,⟨n,hn⟩,h2,e⟩,hs=>⟨p,q,⟨n,DataW.trod_carry n t _ _ hn (fun x hx=>hs x (by rw[e];exact List.mem_append_left _ hx))⟩,nA ts vs ds q h2 (fun x hx=>hs x (by rw[e];exact List.mem_append_right _ hx)),e⟩
 | [],_ :: _,_,_,h,_=>h.elim
 | [],[],_ :: _,_,h,_=>h.elim
 | _ :: _,[],_,_,h,_=>h.elim
 | _ :: _,_ :: _,[],_,h,_=>h.elim
theorem E2 {g:Ctx}{Hh:af}(h:SR W g Hh W'):Grown W W':=by
 refine⟨⟨h.env.1,h.env.2,fun i hi=>?_⟩,fun a=>?_,h.size⟩
 ·rw[h.kz i hi]
  have:=World.keptBut_refl W (fun _=>False)
  exact this.2.2 i hi
 ·by_cases ha:a.block<W.heap.size
  ·unfold World.frozen?;rw[h.kz _ ha]
  ·have h1:=h.qV a.block a.off (by omega)
   have h2:=dC (w:=W) (r:=a.block) (j:=a.off) (by omega)
   exact h1.trans h2.symm
theorem CP {E:Env}(hE:AY P E){f:FuncId}{as:List T}{args:List Value}(hv:bL (g0 P W) W as args)(hW:Go.Rmp.W E (.call f as) [] (fun o _=>o=.val (.bool true))) :
  Calls P f args.toArray W fun e W'=>e=.returned (.bool true)∧Grown W W'∧∀r,r<W.heap.size→W'.heap[r]?=W.heap[r]?:=by
 obtain⟨_,hc⟩:=Go.Rmp.W.sim hE hW W (g0 P W) W args (ck0 P W) (sr0 P W) hv
 refine(callsIn_wide.1 hc).mono fun e W' ⟨v,t,g',H',he,hq,_,sr,gl,_⟩=>?_
 cases hq
 cases gl
 exact⟨he,E2 sr,sr.kz⟩
theorem tU {E:Env}(hE:AY P E){f:FuncId}{fn:Func}{s:ChangeSpec}{KQ:List Sh}{B:Nat}{tb:TypeId}(K:Kids P (·<P.types.size))(hz:∀t e,t<P.types.size→P.underlying t=some (.slice e)→0<P.cellsOf e)
  (KP:sz P fn.params.toList=some KQ) (al:∀t∈fn.params.toList,t<P.types.size) (hrt:fn.resultTypes=#[tb]) (Ss:P.underlying tb=some .bool) (MY:s.vars=[])
  (y9:∀ds:List (DataW H),ds.length=fn.params.toList.length→s.fn H ds={ results:=[.lit (.bool true)],args:=ds })
  (Zi:∀as:List T,pY B KQ as→pW as≤B→Go.Rmp.W E (.call f as) [] (fun o _=>o=.val (.bool true)))
  (base:Nat) (args:Array Value) (ds gs:List (DataW H)) (before:List MemPlace)
  (CO:∀(j:Nat) t v,fn.params[j]?=some t→args[j]?=some v→Value.okWide P W .any base t v)
  (hW:DataW.Whole enc P fn.params.toList s.vars false W args.toList ds gs before) (hB:bX (ds++gs)≤B) :
  Calls P f args W fun e W'=>∃v,e=.returned v∧s.post enc P fn false true false false W args v W':=by
 have hW':=hW
 obtain⟨p,q,hA,hV,Ta,hfz,fh⟩:=hW
 rw[MY]at hV
 obtain⟨rfl,rfl⟩:gs=[]∧q=[]:=by
  cases gs with
  | nil=>exact⟨rfl,hV⟩
  | cons _ _=>exact hV.elim
 simp only[List.append_nil]at Ta hB
 subst Ta
 obtain⟨as,jk,hss,Sr⟩:=uK fn.params.toList KQ args.toList ds before KP (fun j t v a b=>CO j t v (by simpa using a) (by simpa using b)) hA hB
 have hc:=CP hE jk (Zi as hss (Nat.le_trans Sr hB))
 rw[Array.toArray_toList]at hc
 refine hc.mono fun e W' ⟨he,hg,hold⟩=>⟨_,he,?_⟩
 have hlen:ds.length=fn.params.toList.length:=(trodAll_length hA).2
 have O2:=y9 ds hlen
 refine post_of_same (pa:=before) (pv:=[]) hW' (fun b sp hd=>?_) (fun sp AJ=>?_) (fun sp _=>?_) (by simp) (hg.frame _) hg.2.1 (fun j t r hj hr=>?_)
 ·rw[List.append_nil,O2,hrt]
  simp only[Value.resultList]
  exact trodAll_mk1 (shut_bool Ss _)
 ·rw[List.append_nil,O2]
  refine DataW.TrodAll.respare K hz al (nA _ _ _ _ hA fun x hx=>?_) AJ
  have hb:=hW'.lt x hx
  cases x with
  | cell b o=>simp only[World.sameAt,World.cell?];rw[hold b hb]
  | map b=>exact hold b hb
 ·rw[List.append_nil,O2,MY];rfl
 ·rw[hrt]at hj hr
  cases j with
  | zero=>simp[Value.resultList]at hj hr;subst hj;subst hr;exact okWide_bool_mk Ss _
  | succ j=>simp at hj
end
end Go.Rmp
end

section
namespace Go.Rmp
def vU (R:aw)(H:af):List Rd→Prop
 | []=>True
 | r :: l=>(bU R r.g=true→aq R H r.op=some (R r.d,H))∧vU R H l
theorem nQ {R:aw}{H:af}:∀(l:List Rd),vU R H l→ky R H l
 | [],_=>fun r h=>by cases h
 | x :: l,h=>fun r hr=>by
  rcases List.mem_cons.1 hr with rfl|hr
  ·exact h.1
  ·exact nQ l h.2 r hr
theorem E3 (R:aw)(d:Nat)(v:T):bE R (some d) v=pn R d v:=rfl
theorem E4 (R:aw)(v:T):bE R none v=R:=rfl
theorem E5 (R:aw)(d:Nat)(v:T)(t:Nat):pn R d v t=if t=d then v else R t:=rfl
theorem A7 (a:T)(l:List T):hU (a :: l) 0=a:=rfl
theorem TJ (R:aw)(t:Nat):X.ev R (.r t)=R t:=rfl
theorem TK (R:aw)(v:T):X.ev R (.c v)=v:=rfl
def E6 (R:aw)(g:Gd)(s:List Rd):Bo→Prop
 | .om _ c x y=>g=none∧s=[]∧c=.slice∧x.ev R=.sl .arg []∧y.ev R=.sl .nil []
 | _=>False
structure Zj (E:Env)(R:aw)(H:af)(x:X)(az:List X)(P:af→Bool→Prop)(b n:Nat)(R0:aw)(ps:List Nat)(b9 body:C)(M1 M:Out→af→Prop):Prop where
 hf:x.ev R=.od b
 hb:H[b]?=some (.loop .ready none n R0 ps b9 body)
 hn:az.length=ps.length
 h1:W E (.code b9 (jq R0 ps (az.map (X.ev R)))) H M1
 Cc:∀o H',M1 o H'→(∃R1,o=.ex .normal R1)∧H'[b]?=some (.loop .ready none n R0 ps b9 body)
 h2:∀R1 H1,M1 (.ex .normal R1) H1→W E (.code body R1) (H1.set b (.loop .busy none n R0 ps b9 body)) M
 Cd:∀o H',M o H'→H'[b]?=some (.loop .busy none n R0 ps b9 body)
 h3:∀R' H',M (.ex .normal R') H'→P (H'.set b (.loop .ready none n R0 ps b9 body)) true
 h4:∀e R' H',M (.ex e R') H'→e≠.normal→P (H'.set b (.loop .done (some e) n R0 ps b9 body)) false
def fP (E:Env):List O→aw→af→(aw→af→Prop)→Prop
 | [],R,H,K=>K R H
 | ⟨d,.b b,g,s⟩ :: l,R,H,K=>match bU R g with
  | false=>fP E l (bE R d b7) H K
  | true=>match aq R H b with
   | some (v,H')=>vU R H' s∧fP E l (bE R d v) H' K
   | none=>(E6 R g s b∧∀t:Bool,fP E l (bE R d (.bool t)) H K) ∨
    ∃x bb bi es ix cur,b=.qU x∧x.ev R=.ptr bi 0∧H[bb]?=some (.cY es ix bi cur)∧∀t H',ov H bb bi es ix t H'→vU R H' s∧fP E l (bE R d t) H' K
 | ⟨d,.call f az,g,s⟩ :: l,R,H,K=>match bU R g with
  | false=>fP E l (bE R d b7) H K
  | true=>∃M:Out→af→Prop,W E (.call f (az.map (X.ev R))) H M∧∀v H',M (.val v) H'→vU R H' s∧fP E l (bE R d v) H' K
 | ⟨d,.bF x az,g,s⟩ :: l,R,H,K=>match bU R g with
  | false=>fP E l (bE R d b7) H K
  | true=>(∃(f:Nat) (cs:List T) (M:Out→af→Prop),x.ev R=.fn f cs∧W E (.call f (az.map (X.ev R)++cs)) H M∧∀v H',M (.val v) H'→vU R H' s∧fP E l (bE R d v) H' K) ∨
   ∃b n R0 ps b9 body M1 M,Zj E R H x az (fun H' t=>vU R H' s∧fP E l (bE R d (.bool t)) H' K) b n R0 ps b9 body M1 M
theorem iX {E:Env}{Q:Out→af→Prop}:∀(l:List O) (R:aw) (H:af),fP E l R H (fun R' H'=>Q (.ex .normal R') H')→W E (.ops l R) H Q
 | [],R,H,h=>.nil h
 | ⟨d,.b b,g,s⟩ :: l,R,H,h=>by
  simp only[fP]at h
  split at h
  ·rename_i hw;exact .no hw (iX l _ _ h)
  ·rename_i hw
   split at h
   ·rename_i v H' he;exact .op hw he (nQ _ h.1) (iX l _ _ h.2)
   ·rcases h with h|⟨x,bb,bi,es,ix,cur,rfl,hx,hb,h⟩
    ·cases b with
     | om neg c x y =>
      obtain⟨⟨hg,hs,hc,hx,hy⟩,h⟩:=h
      subst hg
      exact .Cb hs (fun t=>iX l _ _ (h t)) hx hy hc
     | _=>exact h.1.elim
    ·exact .qU hw hx hb (fun t H' hm=>nQ _ (h t H' hm).1) fun t H' hm=>iX l _ _ (h t H' hm).2
 | ⟨d,.call f az,g,s⟩ :: l,R,H,h=>by
  simp only[fP]at h
  split at h
  ·rename_i hw;exact .no hw (iX l _ _ h)
  ·rename_i hw
   obtain⟨M,h1,h2⟩:=h
   exact .call M hw h1 (fun v H' hm=>nQ _ (h2 v H' hm).1) (fun v H' hm=>iX l _ _ (h2 v H' hm).2)
 | ⟨d,.bF x az,g,s⟩ :: l,R,H,h=>by
  simp only[fP]at h
  split at h
  ·rename_i hw;exact .no hw (iX l _ _ h)
  ·rename_i hw
   rcases h with⟨f,cs,M,hf,h1,h2⟩|⟨b,n,R0,ps,b9,body,M1,M,h⟩
   ·exact .bF M hw hf h1 (fun v H' hm=>nQ _ (h2 v H' hm).1) (fun v H' hm=>iX l _ _ (h2 v H' hm).2)
   ·exact .od M1 M hw h.hf h.hb h.hn h.h1 h.Cc h.h2 h.Cd (fun R' H' hm=>nQ _ (h.h3 R' H' hm).1) (fun R' H' hm=>iX l _ _ (h.h3 R' H' hm).2) (fun e R' H' hm he=>nQ _ (h.h4 e R' H' hm he).1) (fun e R' H' hm he=>iX l _ _ (h.h4 e R' H' hm he).2)
def oN (K:aw→af→Prop)(Q:Out→af→Prop):Out→af→Prop
 | .ex .normal R,H=>K R H
 | o,H=>Q o H
def kW (id:Nat)(Q:Out→af→Prop):Out→af→Prop
 | .ex (.exit i) R,H=>if i=id then Q (.ex .normal R) H else Q (.ex (.exit i) R) H
 | o,H=>Q o H
def fp (E:Env):C→aw→af→(Out→af→Prop)→Prop
 | .skip,R,H,Q=>Q (.ex .normal R) H
 | .ops l,R,H,Q=>fP E l R H fun R' H'=>Q (.ex .normal R') H'
 | .seq a b,R,H,Q=>fp E a R H (oN (fun R' H'=>fp E b R' H' Q) Q)
 | .cond x a b,R,H,Q=>match x.ev R with
  | .bool true=>fp E a R H Q
  | .bool false=>fp E b R H Q
  | _=>False
 | .block id a,R,H,Q=>fp E a R H (kW id Q)
 | .exit id,R,H,Q=>Q (.ex (.exit id) R) H
 | .ret,R,H,Q=>Q (.ex .ret R) H
 | .loop a,R,H,Q=>W E (.code (.loop a) R) H Q
 | .cP n x ps a b,R,H,Q=>W E (.code (.cP n x ps a b) R) H Q
theorem iY {E:Env}:∀(c:C) (R:aw) (H:af) (Q:Out→af→Prop),fp E c R H Q→W E (.code c R) H Q
 | .skip,R,H,Q,h=>.skip h
 | .ops l,R,H,Q,h=>.RZ (iX l R H h)
 | .seq a b,R,H,Q,h=>.seq _ (iY a R H _ h) (fun R' H' hm=>iY b R' H' Q hm) (fun o H' hm hn=>by
  cases o with
  | ex e R'=>cases e with
   | normal=>exact absurd rfl (hn R')
   | exit id=>exact hm
   | ret=>exact hm
  | val v=>exact hm)
 | .cond x a b,R,H,Q,h=>by
  simp only[fp]at h
  split at h
  ·rename_i hx;exact .cond true hx (iY a R H Q h)
  ·rename_i hx;exact .cond false hx (iY b R H Q h)
  ·exact h.elim
 | .block id a,R,H,Q,h=>.block _ (iY a R H _ h) (fun R' H' hm=>by simpa[kW]using hm) (fun o H' hm hn=>by
  cases o with
  | ex e R'=>cases e with
   | normal=>exact hm
   | exit i =>
    simp only[kW]at hm
    split at hm
    ·rename_i e;subst e;exact absurd rfl (hn R')
    ·exact hm
   | ret=>exact hm
  | val v=>exact hm)
 | .exit id,R,H,Q,h=>.exit h
 | .ret,R,H,Q,h=>.ret h
 | .loop a,R,H,Q,h=>h
 | .cP n x ps a b,R,H,Q,h=>h
section
variable (E:Env) (R:aw) (H:af) (K:aw→af→Prop) (Q:Out→af→Prop) (l:List O) (d:Option Nat) (s:List Rd)
def XV:T→Bool
 | .bool c=>c
 | _=>false
def XW:T→Bool
 | .bool c=>!c
 | _=>false
def me (b:Bo)(g:Gd)(e:Option (T×af)):Prop:=match e with
 | some (v,H')=>vU R H' s∧fP E l (bE R d v) H' K
 | none=>(E6 R g s b∧∀t:Bool,fP E l (bE R d (.bool t)) H K) ∨
  ∃x bb bi es ix cur,b=.qU x∧x.ev R=.ptr bi 0∧H[bb]?=some (.cY es ix bi cur)∧∀t H',ov H bb bi es ix t H'→vU R H' s∧fP E l (bE R d t) H' K
def KR (b:Bo)(g:Gd)(w:Bool):Prop:=match w with
 | false=>fP E l (bE R d b7) H K
 | true=>me E R H K l d s b g (aq R H b)
def TL (v:T)(H':af):Prop:=vU R H' s∧fP E l (bE R d v) H' K
def xX (f:Nat)(az:List T):Prop:=∃M:Out→af→Prop,W E (.call f az) H M∧∀v H',M (.val v) H'→TL E R K l d s v H'
def KS (f:Nat)(az:List X)(w:Bool):Prop:=match w with
 | false=>fP E l (bE R d b7) H K
 | true=>xX E R H K l d s f (az.map (X.ev R))
def cB (t:T)(az:List X):Prop:=match t with
 | .fn f cs=>xX E R H K l d s f (az.map (X.ev R)++cs)
 | _=>False
def MZ (R:aw)(H:af):Prop:=Q (.ex .normal R) H
def M0 (b:C)(R:aw)(H:af):Prop:=fp E b R H Q
def uL (a b:C)(t:T):Prop:=match t with
 | .bool true=>fp E a R H Q
 | .bool false=>fp E b R H Q
 | _=>False
theorem M3:fP E [] R H K=K R H:=rfl
theorem b_b (b:Bo):fP E (⟨d,.b b,none,s⟩ :: l) R H K=me E R H K l d s b none (aq R H b):=rfl
theorem b_g (b:Bo)(g:Nat×Bool):fP E (⟨d,.b b,some g,s⟩ :: l) R H K=KR E R H K l d s b (some g) (bU R (some g)):=by simp only[fP,KR];rfl
theorem b_c (f:Nat)(az:List X):fP E (⟨d,.call f az,none,s⟩ :: l) R H K=xX E R H K l d s f (az.map (X.ev R)):=rfl
theorem TM (f:Nat)(az:List X)(g:Nat×Bool):fP E (⟨d,.call f az,some g,s⟩ :: l) R H K=KS E R H K l d s f az (bU R (some g)):=by simp only[fP,KS];rfl
theorem XX {x:X}{az:List X}(h:cB E R H K l d s (x.ev R) az):fP E (⟨d,.bF x az,none,s⟩ :: l) R H K:=by
 unfold cB at h
 split at h
 ·rename_i f cs hx
  obtain⟨M,h1,h2⟩:=h
  exact .inl ⟨f,cs,M,hx,h1,h2⟩
 ·exact h.elim
theorem mg {g:Gd}{x:X}{az:List X}(hg:bU R g=true)(h:cB E R H K l d s (x.ev R) az):fP E (⟨d,.bF x az,g,s⟩ :: l) R H K:=by
 simp only[fP,hg]
 unfold cB at h
 split at h
 ·rename_i f cs hx
  obtain⟨M,h1,h2⟩:=h
  exact .inl ⟨f,cs,M,hx,h1,h2⟩
 ·exact h.elim
theorem TN {g:Nat×Bool}{x:X}{az:List X}(hg:bU R (some g)=false):fP E (⟨d,.bF x az,some g,s⟩ :: l) R H K=fP E l (bE R d b7) H K:=by
 simp only[fP,hg]
theorem E7 (neg:Bool)(c:JA)(x y:X):me E R H K l d s (.om neg c x y) none none=((s=[]∧c=.slice∧x.ev R=.sl .arg []∧y.ev R=.sl .nil [])∧∀t:Bool,fP E l (bE R d (.bool t)) H K):=by simp only[me,E6,true_and,reduceCtorEq,false_and,exists_false,or_false]
theorem zI {x:X}{g:Gd}{bb bi:Nat}{es:List (T×T)}{ix:List Nat}{cur:Option Nat}(hx:x.ev R=.ptr bi 0)(hb:H[bb]?=some (.cY es ix bi cur))(h:∀t H',ov H bb bi es ix t H'→vU R H' s∧fP E l (bE R d t) H' K):me E R H K l d s (.qU x) g none:=.inr ⟨x,bb,bi,es,ix,cur,rfl,hx,hb,h⟩
theorem E8 (b:Bo)(g:Gd)(v:T)(H':af):me E R H K l d s b g (some (v,H'))=(vU R H' s∧fP E l (bE R d v) H' K):=rfl
theorem M4 (b:Bo)(g:Gd):KR E R H K l d s b g true=me E R H K l d s b g (aq R H b):=rfl
theorem M5 (b:Bo)(g:Gd):KR E R H K l d s b g false=fP E l (bE R d b7) H K:=rfl
theorem E9 (f:Nat)(az:List X):KS E R H K l d s f az true=xX E R H K l d s f (az.map (X.ev R)):=rfl
theorem Fa (f:Nat)(az:List X):KS E R H K l d s f az false=fP E l (bE R d b7) H K:=rfl
theorem ae {f:Nat}{az:List T}(M:Out→af→Prop)(h1:W E (.call f az) H M)(h2:∀v H',M (.val v) H'→vU R H' s∧fP E l (bE R d v) H' K):xX E R H K l d s f az:=⟨M,h1,h2⟩
theorem Fb:fp E .skip R H Q=Q (.ex .normal R) H:=rfl
theorem M6:fp E (.ops l) R H Q=fP E l R H (MZ Q):=rfl
theorem A8:MZ Q R H=Q (.ex .normal R) H:=rfl
theorem ga (a b:C):fp E (.seq a b) R H Q=fp E a R H (oN (M0 E Q b) Q):=rfl
theorem Fc (x:X)(a b:C):fp E (.cond x a b) R H Q=uL E R H Q a b (x.ev R):=rfl
theorem rb (id:Nat)(a:C):fp E (.block id a) R H Q=fp E a R H (kW id Q):=rfl
theorem Fe (id:Nat):fp E (.exit id) R H Q=Q (.ex (.exit id) R) H:=rfl
theorem M7:fp E .ret R H Q=Q (.ex .ret R) H:=rfl
theorem Ff (a:C):fp E (.loop a) R H Q=W E (.code (.loop a) R) H Q:=rfl
theorem A9 (n:Nat)(x:X)(ps:List Nat)(a b:C):fp E (.cP n x ps a b) R H Q=W E (.code (.cP n x ps a b) R) H Q:=rfl
theorem cU (b:C):M0 E Q b R H=fp E b R H Q:=rfl
theorem Fg (a b:C):uL E R H Q a b (.bool true)=fp E a R H Q:=rfl
theorem Fh (a b:C):uL E R H Q a b (.bool false)=fp E b R H Q:=rfl
theorem dX (R:aw)(H:af):oN K Q (.ex .normal R) H=K R H:=rfl
theorem Fi (R:aw)(H:af):oN K Q (.ex .ret R) H=Q (.ex .ret R) H:=rfl
theorem Fj (id:Nat)(R:aw)(H:af):oN K Q (.ex (.exit id) R) H=Q (.ex (.exit id) R) H:=rfl
theorem M8 (id:Nat)(R:aw)(H:af):kW id Q (.ex .normal R) H=Q (.ex .normal R) H:=rfl
theorem M9 (id:Nat)(R:aw)(H:af):kW id Q (.ex .ret R) H=Q (.ex .ret R) H:=rfl
theorem Na (id i:Nat)(R:aw)(H:af):kW id Q (.ex (.exit i) R) H=if i=id then Q (.ex .normal R) H else Q (.ex (.exit i) R) H:=rfl
theorem Fk (t:Nat):bU R (some (t,true))=XV (R t):=by cases h:R t<;>simp[bU,XV,h]
theorem Fl (t:Nat):bU R (some (t,false))=XW (R t):=by cases h:R t<;>simp[bU,XW,h]
theorem Nb (c:Bool):XV (.bool c)=c:=rfl
theorem Nc:XV b7=false:=rfl
theorem Nd:XW b7=false:=rfl
theorem Nf (c:Bool):XW (.bool c)=!c:=rfl
end
theorem W.cK {E:Env}{α:Type}{a:C}{R:aw}{H:af}{Q:Out→af→Prop}(I:α→aw→af→Prop)(μ:α→Nat)(x:α)(h0:I x R H)
  (step:∀x R H,I x R H→fp E a R H (oN (fun R' H'=>∃y,μ y<μ x∧I y R' H') Q)):W E (.code (.loop a) R) H Q:=by
 have key:∀(n:Nat) (x:α) (R:aw) (H:af),μ x=n→I x R H→W E (.code (.loop a) R) H Q:=by
  intro n
  induction n using Nat.strongRecOn with
  | _ n ih =>
   intro x R H hn hI
   refine .loop _ (iY a R H _ (step x R H hI)) (fun R' H' hm=>?_) (fun o H' hm ey=>?_)
   ·obtain⟨y,hy,Zk⟩:=hm
    exact ih (μ y) (hn▸hy) y R' H' rfl Zk
   ·cases o with
    | ex e R'=>cases e with
     | normal=>exact absurd rfl (ey R')
     | exit id=>exact hm
     | ret=>exact hm
    | val v=>exact hm
 exact key _ x R H rfl h0
def zJ (res:List Rs)(Q:Out→af→Prop):Out→af→Prop
 | .ex .normal R,H | .ex .ret R,H=>match qG R H res with
  | some v=>Q (.val v) H
  | none=>False
 | _,_=>False
theorem W.bu {E:Env}{f:Nat}{fn:Fn}{az:List T}{H:af}{Q:Out→af→Prop}(hf:E.fn f=some fn)(hr:fn.body.na=false)(hn:az.length=fn.np)(h:fp E fn.body (hU az) H (zJ fn.res Q)):W E (.call f az) H Q:=by
 refine .fn _ hf hr hn (iY _ _ _ _ h) fun o H' hm=>?_
 cases o with
 | ex e R =>
  cases e with
  | normal=>simp only[zJ]at hm;split at hm;exact⟨R,.inl rfl,_,by assumption,hm⟩;exact hm.elim
  | exit id=>exact hm.elim
  | ret=>simp only[zJ]at hm;split at hm;exact⟨R,.inr rfl,_,by assumption,hm⟩;exact hm.elim
 | val v=>exact hm.elim
def TO (n:Nat)(res:List Rs)(Q:Out→af→Prop):Out→af→Prop
 | .ex .normal R,H | .ex .ret R,H=>∃bs,marks (R n)=some bs∧bs.Nodup∧(∀b∈bs,H[b]?=some .AB)∧match qG R (kill H bs) res with
  | some v=>Q (.val v) (kill H bs)
  | none=>False
 | _,_=>False
theorem W.TP {E:Env}{f:Nat}{fn:Fn}{az:List T}{H:af}{Q:Out→af→Prop}(hf:E.fn f=some fn)(hn:az.length=fn.np)(h:fp E fn.body (hU az) H (TO fn.n fn.res Q)):W E (.call f az) H Q:=by
 refine .R9 _ hf hn (iY _ _ _ _ h) fun o H' hm=>?_
 cases o with
 | ex e R =>
  cases e with
  | normal=>obtain⟨bs,h1,h2,h3,h4⟩:=hm;split at h4;exact⟨R,bs,.inl rfl,h1,h2,h3,_,by assumption,h4⟩;exact h4.elim
  | exit id=>exact hm.elim
  | ret=>obtain⟨bs,h1,h2,h3,h4⟩:=hm;split at h4;exact⟨R,bs,.inr rfl,h1,h2,h3,_,by assumption,h4⟩;exact h4.elim
 | val v=>exact hm.elim
theorem W.Fm {E:Env}{n:Nat}{x:X}{ps:List Nat}{b9 body:C}{R:aw}{H:af}{Q:Out→af→Prop}{f:Nat}{cs:List T}(hx:x.ev R=.fn f cs)
  (h:W E (.call f (.od (H.length+1) :: cs)) (H++[.AB,.loop .ready none n R ps b9 body]) (fun _ H'=>H'[H.length+1]?=some (.loop .ready none n R ps b9 body)∧Q (.ex .normal (pn R n (ou (R n) H.length))) (H'.set (H.length+1) .dead))) :
  W E (.code (.cP n x ps b9 body) R) H Q :=
 .cP _ hx h fun _ _ hm=>⟨.ready,none,by simp,by simp,hm.1,hm.2⟩
theorem Ng {E:Env}{R:aw}{H:af}{K:aw→af→Prop}{l:List O}{d:Option Nat}{s:List Rd}{x:X}{az:List X}{b n:Nat}{R0:aw}{ps:List Nat}{b9 body:C}
  (hf:x.ev R=.od b) (hb:H[b]?=some (.loop .ready none n R0 ps b9 body)) (hn:az.length=ps.length)
  (h:fp E b9 (jq R0 ps (az.map (X.ev R))) H (fun o H1=>∃R1,o=.ex .normal R1∧H1[b]?=some (.loop .ready none n R0 ps b9 body) ∧
   fp E body R1 (H1.set b (.loop .busy none n R0 ps b9 body)) (fun o H2=>∃R2,o=.ex .normal R2∧H2[b]?=some (.loop .busy none n R0 ps b9 body) ∧
    vU R (H2.set b (.loop .ready none n R0 ps b9 body)) s∧fP E l (bE R d (.bool true)) (H2.set b (.loop .ready none n R0 ps b9 body)) K))) :
  fP E (⟨d,.bF x az,none,s⟩ :: l) R H K:=by
 refine .inr ⟨b,n,R0,ps,b9,body,_,fun o H2=>∃R2,o=.ex .normal R2∧H2[b]?=some (.loop .busy none n R0 ps b9 body)∧vU R (H2.set b (.loop .ready none n R0 ps b9 body)) s∧fP E l (bE R d (.bool true)) (H2.set b (.loop .ready none n R0 ps b9 body)) K,hf,hb,hn,iY _ _ _ _ h,?_,?_,?_,?_,?_⟩
 ·rintro o H'⟨R1,rfl,h1,_⟩;exact⟨⟨R1,rfl⟩,h1⟩
 ·rintro R1 H1⟨_,h0,h1,h2⟩;cases h0;exact iY _ _ _ _ h2
 ·rintro o H'⟨_,_,h,_⟩;exact h
 ·rintro R' H'⟨_,h0,_,h⟩;exact h
 ·rintro e R' H'⟨_,h0,_⟩ bQ;cases h0;exact absurd rfl bQ
theorem W.use {E:Env}{j:J}{H:af}{Q Q':Out→af→Prop}(h:W E j H Q)(hq:∀o H',Q o H'→Q' o H'):W E j H Q':=by
 induction h generalizing Q' with
 | skip h=>exact .skip (hq _ _ h)
 | exit h=>exact .exit (hq _ _ h)
 | ret h=>exact .ret (hq _ _ h)
 | RZ _ ih=>exact .RZ (ih hq)
 | seq M h1 h2 h3 _ oj=>exact .seq M h1 (fun R' H' hm=>oj R' H' hm hq) (fun o H' hm hn=>hq _ _ (h3 o H' hm hn))
 | cond t hx _ ih=>exact .cond t hx (ih hq)
 | block M h1 h2 h3 _=>exact .block M h1 (fun R' H' hm=>hq _ _ (h2 R' H' hm)) (fun o H' hm hn=>hq _ _ (h3 o H' hm hn))
 | loop M h1 h2 h3 _ oj=>exact .loop M h1 (fun R' H' hm=>oj R' H' hm hq) (fun o H' hm hn=>hq _ _ (h3 o H' hm hn))
 | nil h=>exact .nil (hq _ _ h)
 | no hg _ ih=>exact .no hg (ih hq)
 | op hg he hs _ ih=>exact .op hg he hs (ih hq)
 | call M hg h1 hs _ _ oj=>exact .call M hg h1 hs (fun v H' hm=>oj v H' hm hq)
 | bF M hg hf h1 hs _ _ oj=>exact .bF M hg hf h1 hs (fun v H' hm=>oj v H' hm hq)
 | od M1 M hg hf hb hn h1 Cc h2 Cd AF _ DC _ _ _ Sp Sq=>exact .od M1 M hg hf hb hn h1 Cc h2 Cd AF (fun R' H' hm=>Sp R' H' hm hq) DC (fun e R' H' hm he=>Sq e R' H' hm he hq)
 | Cb hs h hx hy hc ih=>exact .Cb hs (fun b=>ih b hq) hx hy hc
 | cP M hx h1 h2 _=>exact .cP M hx h1 (fun v H' hm=>let ⟨st,pe,a,b,c,d⟩:=h2 v H' hm;⟨st,pe,a,b,c,hq _ _ d⟩)
 | R9 M hf hn h1 h2 _=>exact .R9 M hf hn h1 (fun o H' hm=>let ⟨R',bs,a,b,c,d,v,e,f⟩:=h2 o H' hm;⟨R',bs,a,b,c,d,v,e,hq _ _ f⟩)
 | fn M hf hr hn h1 h2 _=>exact .fn M hf hr hn h1 (fun o H' hm=>let ⟨R',a,v,b,c⟩:=h2 o H' hm;⟨R',a,v,b,hq _ _ c⟩)
 | Ce i M hi h1 h2 _=>exact .Ce i M hi h1 (fun v H' hm=>hq _ _ (h2 v H' hm))
 | qV M h1 h2 _=>exact .qV M h1 (fun o H' hm=>let ⟨v,b,cs,a,c,d,e⟩:=h2 o H' hm;⟨v,b,cs,a,c,d,hq _ _ e⟩)
 | qU hg hx hb hs _ ih=>exact .qU hg hx hb hs fun t H' hm=>ih t H' hm hq
 | shr M h1 h2 _=>exact .shr M h1 (fun o H' hm=>let ⟨v,b,cs,k,a,c,d,e⟩:=h2 o H' hm;⟨v,b,cs,k,a,c,d,hq _ _ e⟩)
 | D6 i hi hb _ ih=>exact .D6 i hi hb (ih hq)
 | px h=>exact .px (E.mono _ _ _ _ _ h fun t H' hm=>hq _ _ hm)
theorem cR {E:Env}{K K':aw→af→Prop}(hk:∀R H,K R H→K' R H):∀(l:List O) (R:aw) (H:af),fP E l R H K→fP E l R H K'
 | [],R,H,h=>hk _ _ h
 | ⟨d,.b b,g,s⟩ :: l,R,H,h=>by
  simp only[fP]at h ⊢
  split at h
  ·exact cR hk l _ _ h
  ·split at h
   ·exact⟨h.1,cR hk l _ _ h.2⟩
   ·rcases h with h|⟨x,bb,bi,es,ix,cur,e,hx,hb,h⟩
    ·exact .inl ⟨h.1,fun t=>cR hk l _ _ (h.2 t)⟩
    ·exact .inr ⟨x,bb,bi,es,ix,cur,e,hx,hb,fun t H' hm=>⟨(h t H' hm).1,cR hk l _ _ (h t H' hm).2⟩⟩
 | ⟨d,.call f az,g,s⟩ :: l,R,H,h=>by
  simp only[fP]at h ⊢
  split at h
  ·exact cR hk l _ _ h
  ·obtain⟨M,h1,h2⟩:=h
   exact⟨M,h1,fun v H' hm=>⟨(h2 v H' hm).1,cR hk l _ _ (h2 v H' hm).2⟩⟩
 | ⟨d,.bF x az,g,s⟩ :: l,R,H,h=>by
  simp only[fP]at h ⊢
  split at h
  ·exact cR hk l _ _ h
  ·rcases h with⟨f,cs,M,hf,h1,h2⟩|⟨b,n,R0,ps,b9,body,M1,M,h⟩
   ·exact .inl ⟨f,cs,M,hf,h1,fun v H' hm=>⟨(h2 v H' hm).1,cR hk l _ _ (h2 v H' hm).2⟩⟩
   ·exact .inr ⟨b,n,R0,ps,b9,body,M1,M,⟨h.hf,h.hb,h.hn,h.h1,h.Cc,h.h2,h.Cd,fun R' H' hm=>⟨(h.h3 R' H' hm).1,cR hk l _ _ (h.h3 R' H' hm).2⟩,fun e R' H' hm he=>⟨(h.h4 e R' H' hm he).1,cR hk l _ _ (h.h4 e R' H' hm he).2⟩⟩⟩
theorem cS {E:Env}:∀(c:C) (R:aw) (H:af) {Q Q':Out→af→Prop},(∀o H,Q o H→Q' o H)→fp E c R H Q→fp E c R H Q'
 | .skip,R,H,Q,Q',hq,h=>hq _ _ h
 | .ops l,R,H,Q,Q',hq,h=>cR (fun R H h=>hq _ _ h) l R H h
 | .seq a b,R,H,Q,Q',hq,h=>cS a R H (fun o H' h=>by
  cases o with
  | ex e R'=>cases e with
   | normal=>exact cS b R' H' hq h
   | exit id=>exact hq _ _ h
   | ret=>exact hq _ _ h
  | val v=>exact hq _ _ h) h
 | .cond x a b,R,H,Q,Q',hq,h=>by
  simp only[fp]at h ⊢
  split at h
  ·exact cS a R H hq h
  ·exact cS b R H hq h
  ·exact h.elim
 | .block id a,R,H,Q,Q',hq,h=>cS a R H (fun o H' h=>by
  cases o with
  | ex e R'=>cases e with
   | normal=>exact hq _ _ h
   | exit i=>simp only[kW]at h ⊢;split at h<;>(rename_i e;simp only[e,if_true,if_false];exact hq _ _ h)
   | ret=>exact hq _ _ h
  | val v=>exact hq _ _ h) h
 | .exit id,R,H,Q,Q',hq,h=>hq _ _ h
 | .ret,R,H,Q,Q',hq,h=>hq _ _ h
 | .loop a,R,H,Q,Q',hq,h=>W.use h hq
 | .cP n x ps a b,R,H,Q,Q',hq,h=>W.use h hq
def kX (v:T)(H:af):Out→af→Prop:=fun o H'=>o=.val v∧H'=H
theorem Ba (v v':T)(H H':af):kX v H (.val v') H'=(v'=v∧H'=H):=by simp[kX]
theorem Bb (a b:T)(l:List T):hU (a :: b :: l) 1=b:=rfl
theorem Bc (a b c:T)(l:List T):hU (a :: b :: c :: l) 2=c:=rfl
theorem Bd (a b c d:T)(l:List T):hU (a :: b :: c :: d :: l) 3=d:=rfl
theorem Be (a b c d e:T)(l:List T):hU (a :: b :: c :: d :: e :: l) 4=e:=rfl
def xY (v:T)(H:af):Out→af→Prop:=fun o H'=>o=.val v∧∃l,H'=H++l
theorem xZ (v v':T)(H l:af):xY v H (.val v') (H++l)=(v'=v):=by simp[xY]
theorem uM (v v':T)(H:af):xY v H (.val v') H=(v'=v):=by
 simp only[xY,Out.val.injEq,eq_iff_iff]
 exact⟨fun h=>h.1,fun h=>⟨h,[],by simp⟩⟩
theorem aa (k:IntKind)(n:Nat):cw (.int k (n:Int))=some n:=by simp[cw]
theorem wrap64 {n:Int}(h:-9223372036854775808≤n∧n<9223372036854775808):IntKind.i64.wrap n=n:=by
 unfold IntKind.wrap
 simp only[IntKind.signed,IntKind.bits]
 simp
 omega
theorem vV {n:Int}(h:0≤n∧n<18446744073709551616):IntKind.u64.wrap n=n:=by
 unfold IntKind.wrap
 simp only[IntKind.signed,IntKind.bits]
 simp
 omega
theorem av {i:Nat}(h:i<9223372036854775807):IntKind.i64.wrap ((i:Int)+1)=((i+1:Nat):Int):=by rw[wrap64 (by omega)];simp
theorem iH {i:Nat}(h:i<9223372036854775807)(h1:1≤i):IntKind.i64.wrap ((i:Int)-1)=((i-1:Nat):Int):=by rw[wrap64 (by omega)];omega
theorem TQ (v:T):valOf false [v]=some v:=rfl
theorem TR (cs:List T):valOf true cs=some (.agg cs):=rfl
theorem XY (a b:Nat):decide ((a:Int)<(b:Int))=decide (a<b):=by simp
theorem XZ (a b:Nat):decide ((a:Int)≤(b:Int))=decide (a≤b):=by simp
theorem TS (a b:Nat):((a:Int)==(b:Int))=decide (a=b):=by rw[Bool.eq_iff_iff];simp;omega
theorem Zl (a b:Nat):((a:Int) != (b:Int))=!decide (a=b):=by rw[Bool.eq_iff_iff];simp;omega
theorem Fo:∀(a:List UInt8),Op.bytesLess a a=false
 | []=>rfl
 | x :: a=>by simp[Op.bytesLess,Fo a]
theorem x0:∀(a b c:List UInt8),Op.bytesLess a b=true→Op.bytesLess b c=true→Op.bytesLess a c=true
 | _,[],_,h,_=>by cases ‹List UInt8›<;>simp[Op.bytesLess]at h
 | _,_ :: _,[],_,h=>by simp[Op.bytesLess]at h
 | [],_ :: _,_ :: _,_,_=>rfl
 | x :: a,y :: b,z :: c,h1,h2=>by
  simp only[Op.bytesLess,Bool.or_eq_true,decide_eq_true_eq,Bool.and_eq_true,beq_iff_eq]at h1 h2 ⊢
  rcases h1 with h1|⟨rfl,h1⟩
  ·rcases h2 with h2|⟨rfl,h2⟩
   ·exact .inl (UInt8.lt_trans h1 h2)
   ·exact .inl h1
  ·rcases h2 with h2|⟨rfl,h2⟩
   ·exact .inl h2
   ·exact .inr ⟨rfl,x0 a b c h1 h2⟩
theorem Fp:∀(a b:List UInt8),Op.bytesLess a b=false→Op.bytesLess b a=false→a=b
 | [],[],_,_=>rfl
 | [],_ :: _,h,_=>by simp[Op.bytesLess]at h
 | _ :: _,[],_,h=>by simp[Op.bytesLess]at h
 | x :: a,y :: b,h1,h2=>by
  simp only[Op.bytesLess,Bool.or_eq_false_iff,decide_eq_false_iff_not,Bool.and_eq_false_iff,beq_eq_false_iff_ne]at h1 h2
  have e:x=y:=by
   have a1:=h1.1;have a2:=h2.1
   exact UInt8.le_antisymm (UInt8.not_lt.1 a2) (UInt8.not_lt.1 a1)
  subst e
  rw[Fp a b (h1.2.resolve_left (fun h=>h rfl)) (h2.2.resolve_left (fun h=>h rfl))]
theorem toList_inj {a b:ByteArray}(h:a.toList=b.toList):a=b:=by
 have e:∀c:ByteArray,c.toList=c.data.toList:=fun c=>Go.ByteArray.toList_eq c
 rw[e,e]at h
 cases a;cases b
 simp only[ByteArray.mk.injEq]
 exact Array.toList_inj.1 h
theorem gO (a b:ByteArray):jQ a b=decide (a=b):=by
 unfold jQ
 rw[Bool.eq_iff_iff]
 simp only[beq_iff_eq,decide_eq_true_eq]
 exact⟨toList_inj,fun h=>by rw[h]⟩
theorem dY (a:ByteArray):strLt a a=false:=Fo _
theorem dS {a b c:ByteArray}(h1:strLt a b=true)(h2:strLt b c=true):strLt a c=true:=x0 _ _ _ h1 h2
theorem pZ {a b:ByteArray}(h1:strLt a b=false)(h2:strLt b a=false):a=b:=toList_inj (Fp _ _ h1 h2)
theorem lt_asymm {a b:ByteArray}(h:strLt a b=true):strLt b a=false:=by
 cases e:strLt b a with
 | false=>rfl
 | true=>have:=dS h e;rw[dY]at this;cases this
theorem not_le (a b:ByteArray):(!(strLt b a||jQ b a))=strLt a b:=by
 cases h:strLt a b with
 | true =>
  have h1:=lt_asymm h
  have h2:jQ b a=false:=by rw[gO];simp;rintro rfl;rw[dY]at h;cases h
  simp[h1,h2]
 | false =>
  cases h1:strLt b a with
  | true=>simp
  | false=>have:=pZ h h1;subst this;simp[gO]
def At (H:af)(P:af→Prop):Prop:=P H
theorem At.i {H:af}{P:af→Prop}(h:P H):At H P:=h
def Ext (H H':af):Prop:=∃m,H'=H++m
theorem Ext.rfl' {H:af}:Ext H H:=⟨[],by simp⟩
theorem Ext.trans {H H' xo:af}(h:Ext H H')(h':Ext H' xo):Ext H xo:=by
 obtain⟨a,rfl⟩:=h;obtain⟨b,rfl⟩:=h';exact⟨a++b,by simp⟩
theorem Ext.app {H H':af}(h:Ext H H')(l:af):Ext H (H'++l):=h.trans ⟨l,rfl⟩
theorem Ext.set {H H':af}(h:Ext H H'){b:Nat}(hb:H.length≤b)(x:B):Ext H (H'.set b x):=by
 obtain⟨m,rfl⟩:=h
 exact⟨m.set (b-H.length) x,by rw[List.set_append_right _ _ hb]⟩
theorem Ext.get {H H':af}(h:Ext H H'){b:Nat}{x:B}(hx:H[b]?=some x):H'[b]?=some x:=by
 obtain⟨m,rfl⟩:=h
 have:=(List.getElem?_eq_some_iff.1 hx).1
 rw[List.getElem?_append_left this];exact hx
theorem Ext.len {H H':af}(h:Ext H H'):H.length≤H'.length:=by obtain⟨m,rfl⟩:=h;simp
theorem aM {H:af}{b:Nat}{x:B}(hx:H[b]?=some x):b<H.length:=(List.getElem?_eq_some_iff.1 hx).1
theorem sA {v v':T}{H H':af}(h:Ext H H'):xY v H (.val v') H'=(v'=v):=by
 simp only[xY,Out.val.injEq,eq_iff_iff];exact⟨fun x=>x.1,fun x=>⟨x,h⟩⟩
theorem aK {H l:af}{x:B}{b:Nat}(h:b=H.length):(H++x :: l)[b]?=some x:=by subst h;simp
theorem aP {H l:af}{b:Nat}(h:b<H.length):(H++l)[b]?=H[b]?:=by rw[List.getElem?_append_left h]
theorem bR {H:af}{x:B}{b:Nat}(h:b<H.length):(H.set b x)[b]?=some x:=by simp[h]
theorem bl {H:af}{x:B}{b c:Nat}(h:b≠c):(H.set b x)[c]?=H[c]?:=by simp[h]
theorem vW {H l:af}{x y:B}{b:Nat}(h:b=H.length):(H++x :: l).set b y=H++y :: l:=by subst h;simp
theorem Nh {H l:af}{x:B}{b:Nat}(h:b<H.length):(H++l).set b x=H.set b x++l:=by rw[List.set_append_left _ _ h]
theorem Ni {H l:af}{b:Nat}(h:b<H.length):(b<(H++l).length)=True:=by simp;omega
theorem Nj {H:af}{x:B}{b c:Nat}:(b<(H.set c x).length)=(b<H.length):=by simp
theorem Nk {H:af}{x:B}{b c:Nat}:(b=(H.set c x).length)=(b=H.length):=by simp
def jn (n off:Nat):Option B→Option (List T)
 | some (.cells cs)=>if off+n≤cs.length then some ((cs.drop off).take n)else none
 | _=>none
theorem Bf (H:af)(n b off:Nat):po H n (.ptr b off)=jn n off H[b]?:=by
 simp only[po,jn];rfl
theorem dv (H:af)(n:Nat)(cs:List T):po H n (.cX cs)=if n≤cs.length then some (cs.take n)else none:=rfl
theorem nR (n off:Nat)(cs:List T):jn n off (some (.cells cs))=if off+n≤cs.length then some ((cs.drop off).take n)else none:=rfl
def qI (H:af)(b:Nat)(vs:List T)(off:Nat):Option B→Option af
 | some (.cells cs)=>if off+vs.length≤cs.length then some (H.set b (.cells (cs.take off++vs++cs.drop (off+vs.length))))else none
 | _=>none
theorem Bg (H:af)(vs:List T)(b off:Nat):SV H vs (.ptr b off)=qI H b vs off H[b]?:=by
 simp only[SV,qI];rfl
theorem iZ (H:af)(b:Nat)(vs:List T)(off:Nat)(cs:List T):qI H b vs off (some (.cells cs))=if off+vs.length≤cs.length then some (H.set b (.cells (cs.take off++vs++cs.drop (off+vs.length))))else none:=rfl
theorem p0 (H l:af)(x y:B):(H++x :: l).set H.length y=H++y :: l:=vW rfl
theorem Bh (off b o:Nat):rC off (.ptr b o)=some (.ptr b (o+off)):=rfl
def cW (id:Nat)(P:aw→af→Prop)(Q:Out→af→Prop):Out→af→Prop
 | .ex (.exit i) R,H=>if i=id then P R H else Q (.ex (.exit i) R) H
 | o,H=>Q o H
theorem TT (id:Nat)(P:aw→af→Prop)(Q:Out→af→Prop)(R:aw)(H:af):cW id P Q (.ex .normal R) H=Q (.ex .normal R) H:=rfl
theorem TU (id:Nat)(P:aw→af→Prop)(Q:Out→af→Prop)(R:aw)(H:af):cW id P Q (.ex .ret R) H=Q (.ex .ret R) H:=rfl
theorem TV (id i:Nat)(P:aw→af→Prop)(Q:Out→af→Prop)(R:aw)(H:af):cW id P Q (.ex (.exit i) R) H=if i=id then P R H else Q (.ex (.exit i) R) H:=rfl
theorem W.cT {E:Env}{α:Type}{a:C}{R:aw}{H:af}{Q:Out→af→Prop}(id:Nat)(I:α→aw→af→Prop)(μ:α→Nat)(x:α)(P:aw→af→Prop)(h0:I x R H)
  (step:∀x R H,I x R H→fp E a R H (oN (fun R' H'=>∃y,μ y<μ x∧I y R' H') (cW id P Q))) (rest:∀R H,P R H→Q (.ex (.exit id) R) H):W E (.code (.loop a) R) H Q :=
 W.use (W.cK I μ x h0 step) fun o H' h=>by
  cases o with
  | ex e R'=>cases e with
   | exit i=>simp only[cW]at h;split at h;rename_i e;subst e;exact rest _ _ h;exact h
   | normal=>exact h
   | ret=>exact h
  | val v=>exact h
def aj {α β:Type}[DecidableEq α](es:List (α×β))(k:α):Option β:=(es.find? fun e=>decide (k=e.1)).map (·.2)
def cy {α β:Type}[DecidableEq α](es:List (α×β))(k:α)(v:β):List (α×β) :=
 match es.findIdx? fun e=>decide (k=e.1)with
 | some i=>es.set i (k,v)
 | none=>es++[(k,v)]
def ng {α β:Type}[DecidableEq α](es:List (α×β))(k:α):List (α×β) :=
 match es.findIdx? fun e=>decide (k=e.1)with
 | some i=>es.eraseIdx i
 | none=>es
section
variable {α β:Type} [DecidableEq α]
theorem cN (k:α):aj ([]:List (α×β)) k=none:=rfl
theorem bj (e:α×β)(es:List (α×β))(k:α):aj (e :: es) k=if k=e.1 then some e.2 else aj es k:=by
 unfold aj;rw[List.find?_cons];by_cases h:k=e.1<;>simp[h]
theorem Fq (k:α)(v:β):cy [] k v=[(k,v)]:=rfl
theorem qa (e:α×β)(es:List (α×β))(k:α)(v:β):cy (e :: es) k v=if k=e.1 then(k,v) :: es else e :: cy es k v:=by
 unfold cy;rw[List.findIdx?_cons]
 by_cases h:k=e.1
 ·simp[h]
 ·simp only[h,decide_false,if_false,Bool.false_eq_true]
  cases List.findIdx? (fun e=>decide (k=e.1)) es<;>simp
theorem br (es:List (α×β))(k k':α)(v:β):aj (cy es k v) k'=if k'=k then some v else aj es k':=by
 induction es with
 | nil=>rw[Fq,bj]
 | cons e es ih =>
  rw[qa]
  by_cases h:k=e.1
  ·simp only[h,if_true,bj];by_cases h':k'=e.1<;>simp[h']
  ·simp only[h,if_false,bj,ih]
   by_cases h':k'=e.1
   ·subst h';simp[Ne.symm h]
   ·simp[h']
theorem uN (es:List (α×β))(k:α):aj es k=match es.findIdx? fun e=>decide (k=e.1)with
  | some i=>(es[i]?).map (·.2)
  | none=>none:=by
 induction es with
 | nil=>rfl
 | cons e es ih =>
  rw[bj,List.findIdx?_cons]
  by_cases h:k=e.1
  ·simp[h]
  ·simp only[h,if_false,decide_false,Bool.false_eq_true,ih]
   cases List.findIdx? (fun e=>decide (k=e.1)) es<;>simp
theorem Fs {es:List (α×β)}{k:α}{i:Nat}(h:(es.findIdx? fun e=>decide (k=e.1))=some i):∃v,es[i]?=some (k,v):=by
 rw[List.findIdx?_eq_some_iff_getElem]at h
 obtain⟨hi,h,-⟩:=h
 refine⟨es[i].2,?_⟩
 rw[List.getElem?_eq_getElem hi]
 simp only[decide_eq_true_eq]at h
 rw[h]
end
def bh {α:Type}(ek:α→T)(es:List (α×T)):List (T×T):=es.map fun e=>(ek e.1,e.2)
structure sB {α:Type}[DecidableEq α](kt:KT)(ek:α→T):Prop where
 has:∀a,(ek a).jC kt=true
 eq:∀a b,iK (ek a) (ek b)=some (decide (a=b))
section
variable {α:Type} [DecidableEq α] {kt:KT} {ek:α→T}
theorem vX (ho:sB kt ek)(k:α):∀es:List (α×T),dt (ek k) (bh ek es)=some (es.findIdx? fun e=>decide (k=e.1))
 | []=>rfl
 | e :: es=>by
  have ih:=vX ho k es
  simp only[bh]at ih ⊢
  simp only[List.map_cons,dt,ho.eq,List.findIdx?_cons]
  cases h:decide (k=e.1)
  ·simp[ih]
  ·simp
def jI (o:Option T)(z:T)(ok:Bool):T:=match o with
 | some v=>if ok then .bJ [v,.bool true]else v
 | none=>if ok then .bJ [z,.bool false]else z
def zK (kt:KT)(z:T)(ok:Bool)(H:af)(mb:Option B)(k:T):Option (T×af):=match mb with
 | some (.map es)=>if k.jC kt then match dt k es with
  | some (some i)=>match es[i]? with
   | some e=>some (if ok then .bJ [e.2,.bool true]else e.2,H)
   | none=>none
  | some none=>some (if ok then .bJ [z,.bool false]else z,H)
  | none=>none else none
 | some (.cY es _ _ _)=>if k.jC kt then match dt k es with
  | some (some i)=>match es[i]? with
   | some e=>some (if ok then .bJ [e.2,.bool true]else e.2,H)
   | none=>none
  | some none=>some (if ok then .bJ [z,.bool false]else z,H)
  | none=>none else none
 | _=>none
def O3 (kt:KT)(z:T)(ok:Bool)(H:af)(m k:T):Option (T×af):=match m with
 | .map b=>zK kt z ok H H[b]? k
 | .gX=>if k.jC kt then some (if ok then .bJ [z,.bool false]else z,H)else none
 | _=>none
theorem Ft (R:aw)(H:af)(kt:KT)(z:T)(ok:Bool)(m k:X):aq R H (.oq kt z ok m k)=O3 kt z ok H (m.ev R) (k.ev R):=by
 unfold O3 zK
 simp only[aq]
 cases h1:(k.ev R).jC kt
 ·simp only[Bool.false_eq_true,if_false]
  cases m.ev R with
  | map b=>simp only;split<;>rfl
  | _=>rfl
 ·simp only[if_true]
  cases m.ev R with
  | map b =>
   simp only[hO]
   cases H[b]? with
   | none=>rfl
   | some x=>cases x<;>rfl
  | gX=>simp only[hO,dt]
  | _=>rfl
theorem x7 (kt:KT)(z:T)(ok:Bool)(H:af)(b:Nat)(k:T):O3 kt z ok H (.map b) k=zK kt z ok H H[b]? k:=rfl
theorem mh (ho:sB kt ek)(z:T)(ok:Bool)(H:af)(es:List (α×T))(s:α):zK kt z ok H (some (.map (bh ek es))) (ek s)=some (jI (aj es s) z ok,H):=by
 simp only[zK,ho.has,vX ho,if_true,uN]
 cases h:List.findIdx? (fun e=>decide (s=e.1)) es with
 | none=>cases ok<;>rfl
 | some i =>
  obtain⟨v,hv⟩:=Fs h
  have:(bh ek es)[i]?=some (ek s,v):=by simp[bh,hv]
  simp only[this,hv,jI,Option.map_some]
def x8 (kt:KT)(H:af)(b:Nat)(mb:Option B)(k v:T):Option (T×af):=match mb with
 | some (.map es)=>if k.jC kt then match dt k es with
  | some (some i)=>some (b7,H.set b (.map (es.set i (k,v))))
  | some none=>some (b7,H.set b (.map (es++[(k,v)])))
  | none=>none else none
 | _=>none
def O4 (kt:KT)(H:af)(m k v:T):Option (T×af):=match m with
 | .map b=>x8 kt H b H[b]? k v
 | _=>none
theorem Fu (R:aw)(H:af)(kt:KT)(m k v:X):aq R H (.AA kt m k v)=O4 kt H (m.ev R) (k.ev R) (v.ev R):=by
 unfold O4 x8
 simp only[aq]
 cases m.ev R with
 | map b =>
  simp only
  cases h1:(k.ev R).jC kt
  ·simp only[Bool.false_eq_true,if_false];split<;>rfl
  ·simp only[if_true]
   cases H[b]? with
   | none=>rfl
   | some x=>cases x<;>rfl
 | _=>rfl
theorem x9 {β γ:Type}(f:β→γ):∀(l:List β) (j:Nat),(l.map f).eraseIdx j=(l.eraseIdx j).map f
 | [],_=>by simp
 | _ :: _,0=>by simp
 | _ :: l,j+1=>by simp[x9 f l j]
def Fv (kt:KT)(H:af)(b:Nat)(mb:Option B)(k:T):Option (T×af):=match mb with
 | some (.map es)=>if k.jC kt then match dt k es with
  | some (some i)=>some (.bJ [],H.set b (.map (es.eraseIdx i)))
  | some none=>some (.bJ [],H)
  | none=>none else none
 | _=>none
def O5 (kt:KT)(H:af)(m k:T):Option (T×af):=match m with
 | .map b=>Fv kt H b H[b]? k
 | _=>none
theorem Fx (R:aw)(H:af)(kt:KT)(m k:X):aq R H (.del kt m k)=O5 kt H (m.ev R) (k.ev R):=by
 unfold O5 Fv
 simp only[aq]
 cases m.ev R with
 | map b =>
  simp only
  cases h1:(k.ev R).jC kt
  ·simp only[Bool.false_eq_true,if_false];split<;>rfl
  ·simp only[if_true]
   cases H[b]? with
   | none=>rfl
   | some x=>cases x<;>rfl
 | _=>rfl
theorem ya (kt:KT)(H:af)(b:Nat)(k:T):O5 kt H (.map b) k=Fv kt H b H[b]? k:=rfl
def qJ (es:List (α×T))(s:α):List (α×T):=match es.findIdx? (fun e=>decide (s=e.1))with
 | some i=>es.eraseIdx i
 | none=>es
theorem Fy (ho:sB kt ek)(H:af)(b:Nat)(es:List (α×T))(s:α){v:T}(hv:aj es s=some v):Fv kt H b (some (.map (bh ek es))) (ek s)=some (.bJ [],H.set b (.map (bh ek (qJ es s)))):=by
 rw[uN]at hv
 simp only[Fv,ho.has,vX ho,if_true,qJ]
 cases h:List.findIdx? (fun e=>decide (s=e.1)) es with
 | none=>rw[h]at hv;simp at hv
 | some i=>simp only[bh,Option.some.injEq,Prod.mk.injEq,true_and];congr 2;rw[x9]
def O6 (H:af)(b:Nat):Option B→Option (T×af)
 | some (.map es)=>some (.ptr H.length 0,H.set b (.cY es (List.range es.length) H.length none)++[.vD b])
 | some (.cY es _ _ _)=>some (.ptr H.length 0,H.set b (.cY es (List.range es.length) H.length none)++[.vD b])
 | _=>none
def O7 (H:af):T→Option (T×af)
 | .map b=>O6 H b H[b]?
 | _=>none
theorem Fz (R:aw)(H:af)(x:X):aq R H (.N7 x)=O7 H (x.ev R):=by
 simp only[aq]
 cases x.ev R with
 | map b =>
  simp only[hO,O7]
  cases H[b]? with
  | none=>rfl
  | some y=>cases y<;>rfl
 | _=>rfl
theorem yc (H:af)(b:Nat):O7 H (.map b)=O6 H b H[b]?:=rfl
theorem FA (H:af)(b:Nat)(es:List (T×T)):O6 H b (some (.map es))=some (.ptr H.length 0,H.set b (.cY es (List.range es.length) H.length none)++[.vD b]):=rfl
theorem FB (R:aw)(H:af)(x:X):aq R H (.qU x)=none:=rfl
def KU (H:af)(bi:Nat):Option B→Option (T×af)
 | some (.cY es _ SW (some c))=>if SW=bi then(es[c]?).map fun e=>(.bJ [e.1,e.2],H)else none
 | _=>none
def KV (H:af)(bi:Nat):Option B→Option (T×af)
 | some (.vD b)=>KU H bi H[b]?
 | _=>none
def O8 (H:af):T→Option (T×af)
 | .ptr bi 0=>KV H bi H[bi]?
 | _=>none
theorem FC (R:aw)(H:af)(x:X):aq R H (.N8 x)=O8 H (x.ev R):=by
 simp only[aq]
 cases x.ev R with
 | ptr bi o =>
  cases o with
  | zero =>
   simp only[O8]
   cases H[bi]? with
   | none=>rfl
   | some y=>cases y with
    | vD b =>
     simp only[KV]
     cases H[b]? with
     | none=>rfl
     | some z=>cases z with
      | cY es ix SW cur=>cases cur<;>rfl
      | _=>rfl
    | _=>rfl
  | succ _=>rfl
 | _=>rfl
theorem yd (H:af)(bi:Nat):O8 H (.ptr bi 0)=KV H bi H[bi]?:=rfl
theorem FD (H:af)(bi b:Nat):KV H bi (some (.vD b))=KU H bi H[b]?:=rfl
theorem FE (H:af)(bi:Nat)(es:List (T×T))(ix:List Nat)(c:Nat):KU H bi (some (.cY es ix bi (some c)))=(es[c]?).map fun e=>(.bJ [e.1,e.2],H):=by simp only[KU,if_true]
def KW (H:af)(b off len n n':Nat)(z:List T):Option B→Option (T×af)
 | some (.cells cs)=>if n'=n∧z.length=n∧off+len*n≤cs.length then some (b7,H.set b (.cells (cs.take off++(List.replicate len z).flatten++cs.drop (off+len*n))))else none
 | _=>none
def O9 (H:af)(n:Nat)(z:List T):T→Option (T×af)
 | .aA b off len n'=>KW H b off len n n' z H[b]?
 | _=>none
theorem FF (R:aw)(H:af)(n:Nat)(z:List T)(x:X):aq R H (.RX n z x)=O9 H n z (x.ev R):=by
 simp only[aq]
 cases x.ev R with
 | aA b off len n' =>
  simp only[O9]
  cases H[b]? with
  | none=>rfl
  | some y=>cases y<;>rfl
 | _=>rfl
theorem oO (H:af)(n:Nat)(z:List T)(b off len n':Nat):O9 H n z (.aA b off len n')=KW H b off len n n' z H[b]?:=rfl
theorem ye (kt:KT)(H:af)(b:Nat)(k v:T):O4 kt H (.map b) k v=x8 kt H b H[b]? k v:=rfl
theorem vY (ho:sB kt ek)(H:af)(b:Nat)(es:List (α×T))(s:α)(v:T):x8 kt H b (some (.map (bh ek es))) (ek s) v=some (b7,H.set b (.map (bh ek (cy es s v)))):=by
 simp only[x8,ho.has,vX ho,if_true,cy]
 cases h:List.findIdx? (fun e=>decide (s=e.1)) es with
 | none=>simp[bh]
 | some i=>simp[bh]
end
theorem TW:sB (.sc .str) T.str:=⟨fun _=>rfl,fun a b=>by simp only[iK,jD,gO]⟩
def kU (n:Nat):T:=.int .u64 n
theorem Pa:sB (.sc .int) kU:=⟨fun _=>rfl,fun a b=>by simp only[kU,iK,jD,if_true,TS]⟩
theorem fQ (z:T)(ok:Bool)(H:af)(es:List (ByteArray×T))(s:ByteArray):zK (.sc .str) z ok H (some (.map (bh T.str es))) (.str s)=some (jI (aj es s) z ok,H):=mh TW z ok H es s
theorem mj (z:T)(ok:Bool)(H:af)(es:List (Nat×T))(s:Nat):zK (.sc .int) z ok H (some (.map (bh kU es))) (.int .u64 s)=some (jI (aj es s) z ok,H):=mh Pa z ok H es s
theorem nT (H:af)(b:Nat)(es:List (ByteArray×T))(s:ByteArray)(v:T):x8 (.sc .str) H b (some (.map (bh T.str es))) (.str s) v=some (b7,H.set b (.map (bh T.str (cy es s v)))):=vY TW H b es s v
theorem sC (H:af)(b:Nat)(es:List (Nat×T))(s:Nat)(v:T):x8 (.sc .int) H b (some (.map (bh kU es))) (.int .u64 s) v=some (b7,H.set b (.map (bh kU (cy es s v)))):=vY Pa H b es s v
theorem yf (v z:T):jI (some v) z false=v:=rfl
theorem yg (z:T):jI none z false=z:=rfl
theorem uO (v z:T):jI (some v) z true=.bJ [v,.bool true]:=rfl
theorem uP (z:T):jI none z true=.bJ [z,.bool false]:=rfl
theorem uQ (l:List T):(T.agg l).cells?=some l:=rfl
theorem uR (k:IntKind)(n:Int):(T.int k n).cells?=some [.int k n]:=rfl
theorem uS (s:ByteArray):(T.str s).cells?=some [.str s]:=rfl
theorem sD (s:Bool):(T.bool s).cells?=some [.bool s]:=rfl
theorem yh (k:SK)(l:List (List T)):(T.sl k l).cells?=some [.sl k l]:=rfl
theorem uT (a b c d:Nat):(T.aA a b c d).cells?=some [.aA a b c d]:=rfl
theorem uU (b:Nat):(T.map b).cells?=some [.map b]:=rfl
theorem uV (a b:Nat):(T.ptr a b).cells?=some [.ptr a b]:=rfl
theorem sE:(T.gX).cells?=some [.gX]:=rfl
theorem sF:(T.bZ).cells?=some [.bZ]:=rfl
theorem TX (v:T):Ca [v]=v:=rfl
theorem TY (v w:T):Ca [v,w]=.bJ [v,w]:=rfl
theorem TZ (v w x:T):Ca [v,w,x]=.bJ [v,w,x]:=rfl
theorem FG (k:IntKind)(n:Int):(T.int k n).erase=.int k n:=rfl
theorem FH (s:ByteArray):(T.str s).erase=.str s:=rfl
theorem Bi (s:Bool):(T.bool s).erase=.bool s:=rfl
theorem Nl (k:SK)(l:List (List T)):(T.sl k l).erase=.sl .arg l:=rfl
theorem FI (a b:Nat):(T.ptr a b).erase=.ptr a b:=rfl
theorem vZ (b:Nat):(T.map b).erase=.map b:=rfl
theorem Bj:(T.gX).erase=.gX:=rfl
theorem Bl:(T.bZ).erase=.bZ:=rfl
theorem Nn (H:af)(n:Nat)(k:SK)(es:List (List T)):bq H n (.sl k es)=if es.all (·.length==n)then some es else none:=rfl
theorem FJ (R:aw):bU R Option.none=true:=rfl
theorem FK (p:Prop):(True→p)=p:=by simp
theorem No (p:Prop):(p→True)=True:=by simp
theorem Np (p:Prop):(true=true→p)=p:=by simp
theorem Nq (p:Prop):(false=true→p)=True:=by simp
theorem FL (b:Bool):D0 .not (.bool b)=some (.bool !b):=rfl
theorem FM (k:IntKind)(a b:Int):cL .add (.int k a) (.int k b)=some (.int k (k.wrap (a+b))):=by simp[cL]
theorem FN (k:IntKind)(a b:Int):cL .sub (.int k a) (.int k b)=some (.int k (k.wrap (a-b))):=by simp[cL]
theorem FO (k:IntKind)(a b:Int):cL .mul (.int k a) (.int k b)=some (.int k (k.wrap (a*b))):=by simp[cL]
theorem FP (k:IntKind)(a b:Int):cL .quo (.int k a) (.int k b)=if b=0 then none else some (.int k (k.wrap (a.tdiv b))):=by simp[cL]
theorem FQ (k:IntKind)(a b:Int):cL .rem (.int k a) (.int k b)=if b=0 then none else some (.int k (a.tmod b)):=by simp[cL]
theorem FR (k k':IntKind)(a b:Int):cL .shl (.int k a) (.int k' b)=if b<0 then none else some (.int k (k.wrap (a*2^(min b.toNat k.bits)))):=by simp[cL]
theorem FT (k k':IntKind)(a b:Int):cL .shr (.int k a) (.int k' b)=if b<0 then none else some (.int k (a.fdiv (2^(min b.toNat k.bits)))):=by simp[cL]
theorem FU (k:IntKind)(a b:Int):cL .and (.int k a) (.int k b)=some (.int k (k.wrap (BitVec.ofInt k.bits a &&& BitVec.ofInt k.bits b).toNat)):=by simp[cL]
theorem Nr (k:IntKind)(a b:Int):cL .or (.int k a) (.int k b)=some (.int k (k.wrap (BitVec.ofInt k.bits a ||| BitVec.ofInt k.bits b).toNat)):=by simp[cL]
theorem FV (k:IntKind)(a b:Int):cL .xor (.int k a) (.int k b)=some (.int k (k.wrap (BitVec.ofInt k.bits a ^^^ BitVec.ofInt k.bits b).toNat)):=by simp[cL]
theorem FW (k:IntKind)(a b:Int):cL .eql (.int k a) (.int k b)=some (.bool (a==b)):=by simp[cL]
theorem FX (k:IntKind)(a b:Int):cL .neq (.int k a) (.int k b)=some (.bool (a != b)):=by simp[cL]
theorem FY (k:IntKind)(a b:Int):cL .lss (.int k a) (.int k b)=some (.bool (a<b)):=by simp[cL]
theorem FZ (k:IntKind)(a b:Int):cL .leq (.int k a) (.int k b)=some (.bool (a≤b)):=by simp[cL]
theorem F4 (k:IntKind)(a b:Int):cL .gtr (.int k a) (.int k b)=some (.bool (b<a)):=by simp[cL]
theorem F5 (k:IntKind)(a b:Int):cL .geq (.int k a) (.int k b)=some (.bool (b≤a)):=by simp[cL]
theorem F6 (a b:ByteArray):cL .eql (.str a) (.str b)=some (.bool (decide (a=b))):=by simp[cL,gO]
theorem F7 (a b:ByteArray):cL .neq (.str a) (.str b)=some (.bool (!decide (a=b))):=by simp[cL,gO]
theorem F9 (a b:ByteArray):cL .lss (.str a) (.str b)=some (.bool (strLt a b)):=by rfl
theorem Ga (a b:ByteArray):cL .leq (.str a) (.str b)=some (.bool (!strLt b a)):=by have:=not_le b a;simp only[cL,Option.some.injEq,T.bool.injEq];rw[←this];simp
theorem Gb (a b:ByteArray):cL .gtr (.str a) (.str b)=some (.bool (strLt b a)):=by have:=not_le b a;simp only[cL,Option.some.injEq,T.bool.injEq];exact this
theorem Gc (a b:ByteArray):cL .geq (.str a) (.str b)=some (.bool (!strLt a b)):=by rfl
theorem Ge (a b:ByteArray):cL .add (.str a) (.str b)=if a.size+b.size≤9223372036854775807 then some (.str (a++b))else none:=rfl
theorem Gf (a b:Nat):decide ((a:Int)<(no_index (OfNat.ofNat b)))=decide (a<OfNat.ofNat b):=XY a b
theorem Gg (a b:Nat):decide ((no_index (OfNat.ofNat b):Int)<(a:Int))=decide (OfNat.ofNat b<a):=XY b a
theorem Gh (a b:Nat):decide ((a:Int)≤(no_index (OfNat.ofNat b)))=decide (a≤OfNat.ofNat b):=XZ a b
theorem Gi (a b:Nat):decide ((no_index (OfNat.ofNat b):Int)≤(a:Int))=decide (OfNat.ofNat b≤a):=XZ b a
theorem Gj (a b:Nat):((a:Int)==(no_index (OfNat.ofNat b)))=decide (a=OfNat.ofNat b):=TS a b
theorem Gk (a b:Nat):((a:Int) != (no_index (OfNat.ofNat b)))=!decide (a=OfNat.ofNat b):=Zl a b
set_option linter.defProp false in
theorem S1:type_of% (And.intro (@TN)<|And.intro (@aq.eq_37)<|And.intro (@aq.eq_38)<|And.intro (@aq.eq_43)<|And.intro (@aq.eq_44)<|And.intro (@aq.eq_45)<|And.intro (@TT)<|And.intro (@TU)<|And.intro (@TV)<|And.intro (@fX.eq_1)<|And.intro (@fX.eq_2)<|And.intro (@FJ)<|And.intro (@FK)<|And.intro (@No)<|And.intro (@Np)<|And.intro (@Nq)<|And.intro (@E7)<|And.intro (@List.nil_append.{0})<|And.intro (@List.append_nil.{0})<|And.intro (@List.cons_append.{0})<|And.intro (@FG)<|And.intro (@FH)<|And.intro (@Bi)<|And.intro (@Nl)<|And.intro (@FI)<|And.intro (@vZ)<|And.intro (@Bj)<|And.intro (@Bl)<|And.intro (@Nn)<|And.intro (@fJ.eq_1)<|And.intro (@fJ.eq_2)<|And.intro (@nn.eq_1)<|And.intro (@nn.eq_2)<|And.intro (@jR.eq_1)<|And.intro (@jR.eq_2)<|And.intro (@jS.eq_1)<|And.intro (@jS.eq_2)<|And.intro (@List.replicate_zero.{0})<|And.intro (@List.replicate_succ.{0})<|And.intro (@List.set_cons_zero.{0})<|And.intro (@List.set_cons_succ.{0})<|And.intro (@List.all_cons.{0})<|And.intro (@List.all_nil.{0})<|And.intro (@Bool.and_true)<|And.intro (@Bool.true_and)<|And.intro (@dv)<|And.intro (@Bf)<|And.intro (@nR)<|And.intro (@Bg)<|And.intro (@iZ)<|And.intro (@Bh)<|And.intro (@Gf)<|And.intro (@Gg)<|And.intro (@Gh)<|And.intro (@Gi)<|And.intro (@Gj)<|And.intro (@Gk)<|And.intro (@M3)<|And.intro (@b_b)<|And.intro (@b_g)<|And.intro (@b_c)<|And.intro (@TM)<|And.intro (@E8)<|And.intro (@M4)<|And.intro (@M5)<|And.intro (@E9)<|And.intro (@Fa)<|And.intro (@Fb)<|And.intro (@M6)<|And.intro (@A8)<|And.intro (@ga)<|And.intro (@Fc)<|And.intro (@rb)<|And.intro (@Fe)<|And.intro (@M7)<|And.intro (@Ff)<|And.intro (@A9)<|And.intro (@cU)<|And.intro (@Fg)<|And.intro (@Fh)<|And.intro (@dX)<|And.intro (@Fi)<|And.intro (@Fj)<|And.intro (@M8)<|And.intro (@M9)<|And.intro (@Na)<|And.intro (@Bool.false_eq_true)<|And.intro (@Fk)<|And.intro (@Fl)<|And.intro (@Nb)<|And.intro (@Nf)<|And.intro (@Nc)<|And.intro (@Nd)<|And.intro (@xZ)<|And.intro (@uM)<|And.intro (@List.length_cons.{0})<|And.intro (@List.length_nil.{0})<|And.intro (@List.drop_succ_cons.{0})<|And.intro (@List.drop_zero.{0})<|And.intro (@List.take_succ_cons.{0})<|And.intro (@List.take_zero.{0})<|And.intro (@uQ)<|And.intro (@uR)<|And.intro (@uS)<|And.intro (@sD)<|And.intro (@yh)<|And.intro (@uT)<|And.intro (@uU)<|And.intro (@uV)<|And.intro (@sE)<|And.intro (@sF)<|And.intro (@rC.eq_1)<|And.intro (@rC.eq_2)<|And.intro (@Nat.zero_add)<|And.intro (@TJ)<|And.intro (@TK)<|And.intro (@vU.eq_1)<|And.intro (@vU.eq_2)<|And.intro (@E3)<|And.intro (@E4)<|And.intro (@E5)<|And.intro (@A7)<|And.intro (@Bb)<|And.intro (@Bc)<|And.intro (@Bd)<|And.intro (@Be)<|And.intro (@true_and)<|And.intro (@and_true)<|And.intro (@Option.map_some.{0,0})<|And.intro (@Option.bind_some.{0,0})<|And.intro (@FL)<|And.intro (@jE.eq_1)<|And.intro (@jE.eq_2)<|And.intro (@jE.eq_3)<|And.intro (@jE.eq_4)<|And.intro (@jE.eq_5)<|And.intro (@aa)<|And.intro (@TQ)<|And.intro (@TR)<|And.intro (@zJ.eq_1)<|And.intro (@zJ.eq_2)<|And.intro (@qG.eq_1)<|And.intro (@tC.eq_1)<|And.intro (@tC.eq_2)<|And.intro (@zg.eq_1)<|And.intro (@zg.eq_2)<|And.intro (@TX)<|And.intro (@TY)<|And.intro (@TZ)<|And.intro (@XY)<|And.intro (@XZ)<|And.intro (@TS)<|And.intro (@Zl)<|And.intro (@List.map_cons.{0,0})<|And.intro (@List.map_nil.{0,0})<|And.intro (@decide_true)<|And.intro (@decide_false)<|And.intro (@gO)<|And.intro (@Bool.not_true)<|And.intro (@Bool.not_false)<|And.intro (@beq_self_eq_true.{0})<|And.intro (@bne_self_eq_false.{0})<|And.intro (@List.getElem?_cons_zero.{0})<|And.intro (@List.getElem?_cons_succ.{0})<|And.intro (@List.getElem?_nil.{0})<|And.intro (@List.length_map.{0,0})<|And.intro (@Ba)<|And.intro (@T.bool.injEq)<|And.intro (@T.int.injEq)<|And.intro (@T.str.injEq)<|And.intro (@T.bJ.injEq)<|And.intro (@aq.eq_1)<|And.intro (@aq.eq_2)<|And.intro (@aq.eq_3)<|And.intro (@aq.eq_4)<|And.intro (@aq.eq_5)<|And.intro (@aq.eq_6)<|And.intro (@aq.eq_7)<|And.intro (@aq.eq_8)<|And.intro (@aq.eq_9)<|And.intro (@aq.eq_10)<|And.intro (@aq.eq_11)<|And.intro (@aq.eq_12)<|And.intro (@aq.eq_13)<|And.intro (@aq.eq_14)<|And.intro (@aq.eq_15)<|And.intro (@aq.eq_16)<|And.intro (@aq.eq_17)<|And.intro (@aq.eq_18)<|And.intro (@aq.eq_19)<|And.intro (@aq.eq_20)<|And.intro (@aq.eq_21)<|And.intro (@aq.eq_22)<|And.intro (@aq.eq_23)<|And.intro (@aq.eq_24)<|And.intro (@aq.eq_25)<|And.intro (@aq.eq_26)<|And.intro (@Fx)<|And.intro (@ya)<|And.intro (@Fz)<|And.intro (@yc)<|And.intro (@FA)<|And.intro (@FB)<|And.intro (@FC)<|And.intro (@yd)<|And.intro (@FD)<|And.intro (@FE)<|And.intro (@FF)<|And.intro (@oO)<|And.intro (@aq.eq_30)<|And.intro (@aq.eq_31)<|And.intro (@aq.eq_32)<|And.intro (@aq.eq_33)<|And.intro (@aq.eq_34)<|And.intro (@aq.eq_35)<|And.intro (@aq.eq_36)<|And.intro (@Ft)<|And.intro (@Fu)<|And.intro (@x7)<|And.intro (@fQ)<|And.intro (@mj)<|And.intro (@ye)<|And.intro (@nT)<|And.intro (@sC)<|And.intro (@yf)<|And.intro (@yg)<|And.intro (@uO)<|And.intro (@uP)<|And.intro (@FM)<|And.intro (@FN)<|And.intro (@FO)<|And.intro (@FP)<|And.intro (@FQ)<|And.intro (@FR)<|And.intro (@FT)<|And.intro (@FU)<|And.intro (@Nr)<|And.intro (@FV)<|And.intro (@FW)<|And.intro (@FX)<|And.intro (@FY)<|And.intro (@FZ)<|And.intro (@F4)<|And.intro (@F5)<|And.intro (@F6)<|And.intro (@F7)<|And.intro (@F9)<|And.intro (@Ga)<|And.intro (@Gb)<|And.intro (@Gc)<|(@Ge)):=And.intro (@TN)<|And.intro (@aq.eq_37)<|And.intro (@aq.eq_38)<|And.intro (@aq.eq_43)<|And.intro (@aq.eq_44)<|And.intro (@aq.eq_45)<|And.intro (@TT)<|And.intro (@TU)<|And.intro (@TV)<|And.intro (@fX.eq_1)<|And.intro (@fX.eq_2)<|And.intro (@FJ)<|And.intro (@FK)<|And.intro (@No)<|And.intro (@Np)<|And.intro (@Nq)<|And.intro (@E7)<|And.intro (@List.nil_append.{0})<|And.intro (@List.append_nil.{0})<|And.intro (@List.cons_append.{0})<|And.intro (@FG)<|And.intro (@FH)<|And.intro (@Bi)<|And.intro (@Nl)<|And.intro (@FI)<|And.intro (@vZ)<|And.intro (@Bj)<|And.intro (@Bl)<|And.intro (@Nn)<|And.intro (@fJ.eq_1)<|And.intro (@fJ.eq_2)<|And.intro (@nn.eq_1)<|And.intro (@nn.eq_2)<|And.intro (@jR.eq_1)<|And.intro (@jR.eq_2)<|And.intro (@jS.eq_1)<|And.intro (@jS.eq_2)<|And.intro (@List.replicate_zero.{0})<|And.intro (@List.replicate_succ.{0})<|And.intro (@List.set_cons_zero.{0})<|And.intro (@List.set_cons_succ.{0})<|And.intro (@List.all_cons.{0})<|And.intro (@List.all_nil.{0})<|And.intro (@Bool.and_true)<|And.intro (@Bool.true_and)<|And.intro (@dv)<|And.intro (@Bf)<|And.intro (@nR)<|And.intro (@Bg)<|And.intro (@iZ)<|And.intro (@Bh)<|And.intro (@Gf)<|And.intro (@Gg)<|And.intro (@Gh)<|And.intro (@Gi)<|And.intro (@Gj)<|And.intro (@Gk)<|And.intro (@M3)<|And.intro (@b_b)<|And.intro (@b_g)<|And.intro (@b_c)<|And.intro (@TM)<|And.intro (@E8)<|And.intro (@M4)<|And.intro (@M5)<|And.intro (@E9)<|And.intro (@Fa)<|And.intro (@Fb)<|And.intro (@M6)<|And.intro (@A8)<|And.intro (@ga)<|And.intro (@Fc)<|And.intro (@rb)<|And.intro (@Fe)<|And.intro (@M7)<|And.intro (@Ff)<|And.intro (@A9)<|And.intro (@cU)<|And.intro (@Fg)<|And.intro (@Fh)<|And.intro (@dX)<|And.intro (@Fi)<|And.intro (@Fj)<|And.intro (@M8)<|And.intro (@M9)<|And.intro (@Na)<|And.intro (@Bool.false_eq_true)<|And.intro (@Fk)<|And.intro (@Fl)<|And.intro (@Nb)<|And.intro (@Nf)<|And.intro (@Nc)<|And.intro (@Nd)<|And.intro (@xZ)<|And.intro (@uM)<|And.intro (@List.length_cons.{0})<|And.intro (@List.length_nil.{0})<|And.intro (@List.drop_succ_cons.{0})<|And.intro (@List.drop_zero.{0})<|And.intro (@List.take_succ_cons.{0})<|And.intro (@List.take_zero.{0})<|And.intro (@uQ)<|And.intro (@uR)<|And.intro (@uS)<|And.intro (@sD)<|And.intro (@yh)<|And.intro (@uT)<|And.intro (@uU)<|And.intro (@uV)<|And.intro (@sE)<|And.intro (@sF)<|And.intro (@rC.eq_1)<|And.intro (@rC.eq_2)<|And.intro (@Nat.zero_add)<|And.intro (@TJ)<|And.intro (@TK)<|And.intro (@vU.eq_1)<|And.intro (@vU.eq_2)<|And.intro (@E3)<|And.intro (@E4)<|And.intro (@E5)<|And.intro (@A7)<|And.intro (@Bb)<|And.intro (@Bc)<|And.intro (@Bd)<|And.intro (@Be)<|And.intro (@true_and)<|And.intro (@and_true)<|And.intro (@Option.map_some.{0,0})<|And.intro (@Option.bind_some.{0,0})<|And.intro (@FL)<|And.intro (@jE.eq_1)<|And.intro (@jE.eq_2)<|And.intro (@jE.eq_3)<|And.intro (@jE.eq_4)<|And.intro (@jE.eq_5)<|And.intro (@aa)<|And.intro (@TQ)<|And.intro (@TR)<|And.intro (@zJ.eq_1)<|And.intro (@zJ.eq_2)<|And.intro (@qG.eq_1)<|And.intro (@tC.eq_1)<|And.intro (@tC.eq_2)<|And.intro (@zg.eq_1)<|And.intro (@zg.eq_2)<|And.intro (@TX)<|And.intro (@TY)<|And.intro (@TZ)<|And.intro (@XY)<|And.intro (@XZ)<|And.intro (@TS)<|And.intro (@Zl)<|And.intro (@List.map_cons.{0,0})<|And.intro (@List.map_nil.{0,0})<|And.intro (@decide_true)<|And.intro (@decide_false)<|And.intro (@gO)<|And.intro (@Bool.not_true)<|And.intro (@Bool.not_false)<|And.intro (@beq_self_eq_true.{0})<|And.intro (@bne_self_eq_false.{0})<|And.intro (@List.getElem?_cons_zero.{0})<|And.intro (@List.getElem?_cons_succ.{0})<|And.intro (@List.getElem?_nil.{0})<|And.intro (@List.length_map.{0,0})<|And.intro (@Ba)<|And.intro (@T.bool.injEq)<|And.intro (@T.int.injEq)<|And.intro (@T.str.injEq)<|And.intro (@T.bJ.injEq)<|And.intro (@aq.eq_1)<|And.intro (@aq.eq_2)<|And.intro (@aq.eq_3)<|And.intro (@aq.eq_4)<|And.intro (@aq.eq_5)<|And.intro (@aq.eq_6)<|And.intro (@aq.eq_7)<|And.intro (@aq.eq_8)<|And.intro (@aq.eq_9)<|And.intro (@aq.eq_10)<|And.intro (@aq.eq_11)<|And.intro (@aq.eq_12)<|And.intro (@aq.eq_13)<|And.intro (@aq.eq_14)<|And.intro (@aq.eq_15)<|And.intro (@aq.eq_16)<|And.intro (@aq.eq_17)<|And.intro (@aq.eq_18)<|And.intro (@aq.eq_19)<|And.intro (@aq.eq_20)<|And.intro (@aq.eq_21)<|And.intro (@aq.eq_22)<|And.intro (@aq.eq_23)<|And.intro (@aq.eq_24)<|And.intro (@aq.eq_25)<|And.intro (@aq.eq_26)<|And.intro (@Fx)<|And.intro (@ya)<|And.intro (@Fz)<|And.intro (@yc)<|And.intro (@FA)<|And.intro (@FB)<|And.intro (@FC)<|And.intro (@yd)<|And.intro (@FD)<|And.intro (@FE)<|And.intro (@FF)<|And.intro (@oO)<|And.intro (@aq.eq_30)<|And.intro (@aq.eq_31)<|And.intro (@aq.eq_32)<|And.intro (@aq.eq_33)<|And.intro (@aq.eq_34)<|And.intro (@aq.eq_35)<|And.intro (@aq.eq_36)<|And.intro (@Ft)<|And.intro (@Fu)<|And.intro (@x7)<|And.intro (@fQ)<|And.intro (@mj)<|And.intro (@ye)<|And.intro (@nT)<|And.intro (@sC)<|And.intro (@yf)<|And.intro (@yg)<|And.intro (@uO)<|And.intro (@uP)<|And.intro (@FM)<|And.intro (@FN)<|And.intro (@FO)<|And.intro (@FP)<|And.intro (@FQ)<|And.intro (@FR)<|And.intro (@FT)<|And.intro (@FU)<|And.intro (@Nr)<|And.intro (@FV)<|And.intro (@FW)<|And.intro (@FX)<|And.intro (@FY)<|And.intro (@FZ)<|And.intro (@F4)<|And.intro (@F5)<|And.intro (@F6)<|And.intro (@F7)<|And.intro (@F9)<|And.intro (@Ga)<|And.intro (@Gb)<|And.intro (@Gc)<|(@Ge)
theorem S2:type_of% (And.intro (@not_false_eq_true)<|And.intro (@ne_eq.{1})<|And.intro (@Nat.lt_succ_self)<|And.intro (@aK)<|And.intro (@aP)<|And.intro (@bR)<|And.intro (@bl)<|And.intro (@vW)<|And.intro (@Nh)<|And.intro (@Ni)<|And.intro (@Nj)<|And.intro (@Nk)<|And.intro (@List.nil_append.{0})<|And.intro (@List.append_nil.{0})<|And.intro (@List.cons_append.{0}) (@List.drop_nil.{0})):=And.intro (@not_false_eq_true)<|And.intro (@ne_eq.{1})<|And.intro (@Nat.lt_succ_self)<|And.intro (@aK)<|And.intro (@aP)<|And.intro (@bR)<|And.intro (@bl)<|And.intro (@vW)<|And.intro (@Nh)<|And.intro (@Ni)<|And.intro (@Nj)<|And.intro (@Nk)<|And.intro (@List.nil_append.{0})<|And.intro (@List.append_nil.{0})<|And.intro (@List.cons_append.{0}) (@List.drop_nil.{0})
theorem Ns (H:af)(x:B):(H++[x]).length=H.length+1:=by simp
theorem T0 {b n:Nat}(h:b<n):(b<n+1)=True:=by simp;omega
theorem S3:type_of% (And.intro (@Ns)<|And.intro (@T0) (@Nat.add_assoc)):=And.intro (@Ns)<|And.intro (@T0) (@Nat.add_assoc)
section
variable {α:Type} {enc:α→List T} {n:Nat}
def aJ (enc:α→List T)(xs:List α):List T:=xs.flatMap enc
theorem dF (hn:∀x,(enc x).length=n):∀xs:List α,(aJ enc xs).length=xs.length*n
 | []=>by simp[aJ]
 | x :: xs=>by
  have:=dF hn xs
  simp only[aJ,List.flatMap_cons,List.length_append,hn,List.length_cons]at this ⊢
  rw[this,Nat.add_mul];omega
theorem mm (hn:∀x,(enc x).length=n):∀(xs:List α) (i:Nat),(aJ enc xs).drop (i*n)=aJ enc (xs.drop i)
 | xs,0=>by simp
 | [],i+1=>by simp[aJ]
 | x :: xs,i+1=>by
  have:=mm hn xs i
  simp only[aJ,List.flatMap_cons,List.drop_succ_cons]at this ⊢
  rw[show(i+1)*n=(enc x).length+i*n by rw[hn,Nat.add_mul];omega,List.drop_append,List.drop_eq_nil_of_le (by omega)]
  simp[this]
theorem jY (hn:∀x,(enc x).length=n):∀(xs:List α) (i:Nat),(aJ enc xs).take (i*n)=aJ enc (xs.take i)
 | xs,0=>by simp[aJ]
 | [],i+1=>by simp[aJ]
 | x :: xs,i+1=>by
  have:=jY hn xs i
  simp only[aJ,List.flatMap_cons,List.take_succ_cons]at this ⊢
  rw[show(i+1)*n=(enc x).length+i*n by rw[hn,Nat.add_mul];omega,List.take_append,List.take_of_length_le (by omega)]
  simp[this]
theorem cG (hn:∀x,(enc x).length=n){xs:List α}{i:Nat}{x:α}(hx:xs[i]?=some x)(off m:Nat)(h:off+m≤n):jn m (i*n+off) (some (.cells (aJ enc xs)))=some (((enc x).drop off).take m):=by
 have hi:=(List.getElem?_eq_some_iff.1 hx).1
 have h1:i*n+n≤xs.length*n:=by rw[←Nat.succ_mul];exact Nat.mul_le_mul_right n hi
 have e:(aJ enc xs).drop (i*n)=enc x++aJ enc (xs.drop (i+1)):=by
  rw[mm hn,List.drop_eq_getElem_cons hi]
  have:xs[i]=x:=(List.getElem?_eq_some_iff.1 hx).2
  rw[this];rfl
 rw[nR,if_pos (by rw[dF hn];omega),←List.drop_drop,e,List.drop_append,List.take_append,hn]
 rw[show m-((enc x).drop off).length=0 by rw[List.length_drop,hn];omega]
 simp
theorem jx (hn:∀x,(enc x).length=n){xs:List α}{i:Nat}{x y:α}(hx:xs[i]?=some x)(H:af)(b:Nat)(vs:List T)(off:Nat)(h:off+vs.length≤n)(hy:enc y=(enc x).take off++vs++(enc x).drop (off+vs.length)) :
  qI H b vs (i*n+off) (some (.cells (aJ enc xs)))=some (H.set b (.cells (aJ enc (xs.set i y)))):=by
 have hi:=(List.getElem?_eq_some_iff.1 hx).1
 have hxi:xs[i]=x:=(List.getElem?_eq_some_iff.1 hx).2
 have h1:i*n+n≤xs.length*n:=by rw[←Nat.succ_mul];exact Nat.mul_le_mul_right n hi
 rw[iZ,if_pos (by rw[dF hn];omega)]
 have e:(aJ enc xs).drop (i*n)=enc x++aJ enc (xs.drop (i+1)):=by
  rw[mm hn,List.drop_eq_getElem_cons hi,hxi];rfl
 have t:(aJ enc xs).take (i*n+off)=aJ enc (xs.take i)++(enc x).take off:=by
  rw[List.take_add,jY hn,e,List.take_append,hn,show off-n=0 by omega];simp
 have d:(aJ enc xs).drop (i*n+off+vs.length)=(enc x).drop (off+vs.length)++aJ enc (xs.drop (i+1)):=by
  rw[Nat.add_assoc,←List.drop_drop,e,List.drop_append,hn,show off+vs.length-n=0 by omega];simp
 rw[t,d]
 have:xs.set i y=xs.take i++y :: xs.drop (i+1):=by rw[List.set_eq_take_append_cons_drop,if_pos hi]
 rw[this]
 simp only[aJ,List.flatMap_append,List.flatMap_cons,hy,List.append_assoc]
theorem KX (k:Nat)(z:α):(List.replicate k (enc z)).flatten=aJ enc (List.replicate k z):=by
 induction k with
 | zero=>rfl
 | succ k ih=>simp only[List.replicate_succ,List.flatten_cons,ih,aJ,List.flatMap_cons]
end
theorem jZ (n i b off len:Nat):fw n i (.aA b off len n)=if i<len then if n=0 then none else some (.ptr b (off+i*n))else none:=by
 simp only[fw,true_and,ne_eq]
 by_cases h:i<len<;>by_cases h':n=0<;>simp[h,h']
def eU (n:Nat):List T:=[.int .u64 n]
def ji (n0:Nat)(H:af)(k:SK):Prop:=k=.nil∨k=.full∨∃t e,k=.own t e∧n0≤t∧H[t]?=some (.tok e)
structure yj (n0:Nat)(H:af)(k:SK)(H':af):Prop where
 len:H.length≤H'.length
 get:∀b x,H[b]?=some x→(∀e,k≠.own b e)→H'[b]?=some x
 ext:∀H0:af,H0.length≤n0→Ext H0 H→Ext H0 H'
theorem yj.cells {n0:Nat}{H H':af}{k:SK}(h:yj n0 H k H')(ha:ji n0 H k){b:Nat}{x:B}(hx:H[b]?=some x)(ht:∀e,x≠.tok e):H'[b]?=some x:=h.get b x hx fun e he=>by
 rcases ha with h|h|⟨t,e',h,_,h'⟩
 ·rw[he]at h;cases h
 ·rw[he]at h;cases h
 ·rw[he]at h;cases h;rw[hx]at h';cases h';exact ht _ rfl
theorem jJ {n0:Nat}{H:af}{k:SK}{bytes:Nat}(es new:List (List T))(hk:ji n0 H k)(jh:n0≤H.length)(jl:new≠[])(hr:cC (es.length+new.length) bytes=true) :
  ∃k' H',gZ H bytes k es new=some (.sl k' (es++new.map (·.map T.erase)),H')∧ji n0 H' k'∧yj n0 H k H':=by
 unfold gZ
 cases new with
 | nil=>exact absurd rfl jl
 | cons c new =>
  simp only[hr,if_true]
  rcases hk with rfl|rfl|⟨t,e,rfl,ht,hg⟩
  ·exact⟨_,_,rfl,.inr (.inr ⟨_,_,rfl,jh,aK rfl⟩),⟨by simp,fun b x hx _=>by rw[aP (aM hx)];exact hx,fun H0 _ h=>h.app _⟩⟩
  ·exact⟨_,_,rfl,.inr (.inr ⟨_,_,rfl,jh,aK rfl⟩),⟨by simp,fun b x hx _=>by rw[aP (aM hx)];exact hx,fun H0 _ h=>h.app _⟩⟩
  ·simp only[hg,if_true]
   refine⟨_,_,rfl,.inr (.inr ⟨_,_,rfl,ht,bR (aM hg)⟩),⟨by simp,fun b x hx bQ=>?_,fun H0 h0 h=>h.set (Nat.le_trans h0 ht) _⟩⟩
   have:t≠b:=fun h=>bQ e (by rw[h])
   rw[bl this];exact hx
theorem iw (n0:Nat)(H:af):ji n0 H .nil:=.inl rfl
theorem ji.ext {n0:Nat}{H H':af}{k:SK}(h:ji n0 H k)(hx:Ext H H'):ji n0 H' k:=by
 rcases h with h|h|⟨t,e,h,h1,h2⟩
 ·exact .inl h
 ·exact .inr (.inl h)
 ·exact .inr (.inr ⟨t,e,h,h1,hx.get h2⟩)
theorem ji.set {n0:Nat}{H:af}{k:SK}(h:ji n0 H k){c:Nat}{x:B}(hx:H[c]?=some x)(ht:∀e,x≠.tok e)(y:B):ji n0 (H.set c y) k:=by
 rcases h with h|h|⟨t,e,h,h1,h2⟩
 ·exact .inl h
 ·exact .inr (.inl h)
 ·refine .inr (.inr ⟨t,e,h,h1,?_⟩)
  have:c≠t:=fun he=>by subst he;rw[hx]at h2;cases h2;exact ht _ rfl
  rw[bl this];exact h2
theorem Gl {n b:Nat}{res:List Rs}{Q:Out→af→Prop}{R:aw}{H:af}(h:R n=.bJ [.ptr b 0])(hd:H[b]?=some .AB)
  (hq:match qG R (H.set b .dead) res with|some v=>Q (.val v) (H.set b .dead)|none=>False):TO n res Q (.ex .ret R) H :=
 ⟨[b],by rw[h];rfl,by simp,by simp[hd],hq⟩
theorem Nt (b:Nat):ou (.bJ []) b=.bJ [.ptr b 0]:=rfl
theorem ft {n m:Nat}(h:(n+n/4+512)*m≤281474976710656):cC n m=true:=by simp[cC,h]
theorem all_map {α:Type}{enc:α→List T}{n:Nat}(hn:∀x,(enc x).length=n)(l:List α):(l.map enc).all (fun c=>c.length==n)=true:=by simp[hn]
def iA {α:Type}(enc:α→List T)(n n0:Nat)(H:af)(t:T)(l:List α):Prop :=
 (l=[]∧t=.sl .nil [])∨∃b,t=.aA b 0 l.length n∧H[b]?=some (.cells (aJ enc l))∧n0≤b
theorem jy {α:Type}(enc:α→List T)(n n0:Nat)(H:af):iA enc n n0 H (.sl .nil []) []:=.inl ⟨rfl,rfl⟩
theorem iA.ext {α:Type}{enc:α→List T}{n n0:Nat}{H H':af}{t:T}{l:List α}(h:iA enc n n0 H t l)(hx:Ext H H'):iA enc n n0 H' t l:=by
 rcases h with h|⟨b,h1,h2,h3⟩
 ·exact .inl h
 ·exact .inr ⟨b,h1,hx.get h2,h3⟩
theorem iA.len {α:Type}{enc:α→List T}{n n0:Nat}{H:af}{t:T}{l:List α}(h:iA enc n n0 H t l):jE H .sl t=some l.length:=by
 rcases h with⟨rfl,rfl⟩|⟨b,rfl,_,_⟩<;>rfl
structure Nu (n0:Nat)(H:af)(t:T)(H':af):Prop where
 len:H.length≤H'.length
 get:∀b x,H[b]?=some x→(∀off len n,t≠.aA b off len n)→H'[b]?=some x
 ext:∀H0:af,H0.length≤n0→Ext H0 H→Ext H0 H'
theorem oP {α:Type}{enc:α→List T}{n n0:Nat}(hn:∀x,(enc x).length=n){H:af}{t:T}{l:List α}{bytes:Nat}(new:List α)(h:iA enc n n0 H t l)(jh:n0≤H.length)(jl:new≠[])(hr:cC (l.length+new.length) bytes=true) :
  ∃t' H',lC H n bytes t (new.map enc)=some (t',H')∧iA enc n n0 H' t' (l++new)∧Nu n0 H t H':=by
 have tj:(new.map enc).flatten=aJ enc new:=by simp[aJ,List.flatMap]
 have sy:∀l:List α,aJ enc l++aJ enc new=aJ enc (l++new):=fun l=>by simp[aJ]
 unfold lC
 cases new with
 | nil=>exact absurd rfl jl
 | cons c new =>
  rcases h with⟨rfl,rfl⟩|⟨b,rfl,hb,Jj⟩
  ·simp only[List.map_cons,List.length_cons,List.length_nil,List.length_map,Nat.zero_add]at hr tj ⊢
   simp only[hr,and_true,if_true]
   refine⟨_,_,rfl,.inr ⟨H.length,by simp,?_,jh⟩,⟨by simp,fun b x hx _=>by rw[aP (aM hx)];exact hx,fun H0 _ h=>h.app _⟩⟩
   rw[aK rfl,tj];rfl
  ·have hc:l.length*n=(aJ enc l).length:=(dF hn l).symm
   simp only[List.map_cons,List.length_cons,List.length_map]at hr tj ⊢
   simp only[hb,hc,hr,and_self,if_true]
   refine⟨_,_,rfl,.inr ⟨H.length,by simp,?_,jh⟩,⟨by simp,fun b' x hx bQ=>?_,fun H0 h0 h=>(h.set (Nat.le_trans h0 Jj) _).app _⟩⟩
   ·rw[aK (by simp),tj,sy]
   ·have T1:b≠b':=fun e=>bQ 0 l.length n (by rw[e])
    rw[aP (by rw[List.length_set];exact aM hx),bl T1];exact hx
theorem Bm {α:Type}{enc:α→List T}{n:Nat}(hn:∀x,(enc x).length=n)(l:List α):tD (aJ enc l) 0 l.length n=l.map enc:=by
 unfold tD
 refine List.ext_getElem? fun i=>?_
 by_cases hi:i<l.length
 ·have:=cG hn (List.getElem?_eq_getElem hi) 0 n (by omega)
  rw[nR]at this
  split at this
  ·simp only[Option.some.injEq,Nat.add_zero,List.drop_zero]at this
   simp only[List.getElem?_map,List.getElem?_range hi,Option.map_some,Nat.zero_add,this,List.getElem?_eq_getElem hi]
   rw[List.take_of_length_le (by rw[hn];omega)]
  ·cases this
 ·rw[List.getElem?_eq_none (by simp;omega),List.getElem?_eq_none (by simp;omega)]
theorem W.zh {α:Type}{enc:α→List T}{n:Nat}(hn:∀x,(enc x).length=n){E:Env}{f:Nat}{az:List T}{H:af}{l:List α}{Q:Out→af→Prop}
  (h:W E (.call f az) H (fun o H'=>∃b,o=.val (.aA b 0 l.length n)∧H'[b]?=some (.cells (aJ enc l))∧Q (.val (.sl .arg (l.map enc))) (H'.set b .dead))):W E (.call f az) H Q:=by
 refine .qV _ h fun o H' ⟨b,ho,hb,hq⟩=>⟨_,b,_,ho,rfl,hb,?_⟩
 have hc:0+l.length*n≤(aJ enc l).length:=by rw[dF hn];omega
 simp only[D5,Go.Rmp.zh,hc,and_self,if_true,Bm hn]
 exact hq
end Go.Rmp
end
