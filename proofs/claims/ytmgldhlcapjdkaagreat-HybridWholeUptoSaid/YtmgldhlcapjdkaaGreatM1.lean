/- Part of a proof of a law of this seat: the machine of plain values, its simulation, and the contracts of the functions that the law reaches. Conditions: none beyond the given row. -/
import Derived.Test.YtmgldhlcapjdkaaGreatM0
import Derived.RangeFuncRecord
import Derived.RangeFuncIn
import Derived.OpenShut
import Derived.RowKit3
import Derived.ChangeSame
import Derived.ReadAgain
import Derived.ChangeCalls
import Derived.Deep.Frames
import Derived.Laws.Strings
open Int renaming reduceLT → q6, reduceLE → q7, reduceBEq → q8, reduceBNe → q9, reduceEq → y1
open Nat renaming reduceAdd → y2, reduceLeDiff → y3, reduceLT → y4, reduceEqDiff → y5
set_option linter.unusedSimpArgs false
set_option linter.unusedVariables false
set_option linter.unnecessarySimpa false
set_option maxHeartbeats 4000000
section
namespace Go.Rmp
section
variable {P:Program} {w0 w:World} {g:Ctx} {H H':Heap} {R:Regs} {ρ:Operand→Value} {t:T}
theorem zeroOf_ok {ty:TypeId} {z:List T} (h:zeroOf P ty=some z):∃ i zv,P.info? ty=some i∧i.zero=some zv∧constL zv.cells.toList=some z:=by
 unfold zeroOf at h
 cases h1:P.info? ty with
 | none=>simp [h1] at h
 | some i =>
  simp only [h1] at h
  cases h2:i.zero with
  | none=>simp [h2] at h
  | some zv=>simp only [h2] at h;exact ⟨i,zv,rfl,h2,h⟩
theorem did_append {tys:List TypeId} {rt:TypeId} {mu:Bool} {as:List X} {vs:List Value} {b:Bo} (hc:cAppend P mu tys as=some b) (h:SR w0 g H w) (hv:VRs g w (as.map (X.ev R)) vs) (he:evop R H b=some (t,H')) :
  Sim P w0 g H w (Builtin.append_ tys.toArray rt vs.toArray) t H':=by
 unfold cAppend at hc
 split at hc
 ·rename_i sT xT x y
  cases vs with
  | nil=>have:=hv.1;simp at this
  | cons vx vs =>
   cases vs with
   | nil=>have:=hv.1;simp at this
   | cons vy vs =>
    cases vs with
    | cons _ _=>have:=hv.1;simp at this
    | nil =>
     have hx:VR g w (x.ev R) vx:=hv.head
     have hy:VR g w (y.ev R) vy:=hv.tail.head
     cases hs:P.underlying sT with
     | none=>simp [hs] at hc
     | some ds =>
      cases hxT:P.underlying xT with
      | none=>cases ds <;> simp [hs,hxT] at hc
      | some dx =>
       cases ds <;> simp only [hs,hxT] at hc <;> (try (cases hc;done))
       rename_i e
       cases hi:P.info? e with
       | none=>simp [hi] at hc
       | some ei =>
        simp only [hi] at hc
        cases hz:ei.zero with
        | none=>simp [hz] at hc
        | some zv =>
         simp only [hz] at hc
         split at hc
         ·rename_i hcond
          simp only [Bool.and_eq_true,beq_iff_eq,bne_iff_ne] at hcond
          simp at hc;subst hc
          have E:ElemOk P sT xT e ei zv ei.size ei.bytes:=⟨hs,hi,⟨dx,hxT,fun k e=>by subst e;simp [notInt] at hcond⟩,rfl,hz,hcond.1.2,rfl,hcond.2⟩
          simp only [evop] at he
          cases hsrc:elemsOf H ei.size (y.ev R) with
          | none=>simp [hsrc] at he
          | some new =>
           simp only [hsrc] at he
           cases mu with
           | true =>
            simp only [if_true] at he
            exact sim_appm E h hx.fgt hy hsrc he
           | false =>
            simp only [Bool.false_eq_true,if_false] at he
            generalize x.ev R=tx at hx he
            cases tx <;> (try simp only [reduceCtorEq] at he)
            split at he
            ·rename_i hall
             exact sim_app E h hx hy hall hsrc he
            ·cases he
         ·cases hc
 ·cases hc
theorem did_apz {tys:List TypeId} {rt:TypeId} {as:List X} {vs:List Value} {b:Bo} (hc:cApz P tys as=some b) (h:SR w0 g H w) (hv:VRs g w (as.map (X.ev R)) vs) (he:evop R H b=some (t,H')) :
  Sim P w0 g H w (Builtin.append_ tys.toArray rt vs.toArray) t H':=by
 unfold cApz at hc
 split at hc
 ·rename_i sT xT x k
  cases vs with
  | nil=>have:=hv.1;simp at this
  | cons vx vs =>
   cases vs with
   | nil=>have:=hv.1;simp at this
   | cons vk vs =>
    cases vs with
    | cons _ _=>have:=hv.1;simp at this
    | nil =>
     have hx:VR g w (x.ev R) vx:=hv.head
     have hk:VR g w (k.ev R) vk:=hv.tail.head
     cases hs:P.underlying sT with
     | none=>simp [hs] at hc
     | some ds =>
      cases hxT:P.underlying xT with
      | none=>cases ds <;> simp [hs,hxT] at hc
      | some dx =>
       cases ds <;> cases dx <;> simp only [hs,hxT] at hc <;> (try (cases hc;done))
       rename_i e kn
       cases hi:P.info? e with
       | none=>simp [hi] at hc
       | some ei =>
        cases hz:zeroOf P e with
        | none=>simp [hi,hz] at hc
        | some z =>
         simp only [hi,hz] at hc
         split at hc
         ·rename_i hcond
          simp only [bne_iff_ne,ne_eq] at hcond
          simp only [Option.some.injEq] at hc;subst hc
          obtain ⟨i,zv,h1,h2,h3⟩:=zeroOf_ok hz
          rw [hi] at h1;cases h1
          simp only [evop,Option.bind_eq_some_iff] at he
          obtain ⟨kk,hkk,he⟩:=he
          generalize k.ev R=tk at hk hkk
          cases hk <;> simp only [natOf] at hkk <;> (try (cases hkk;done))
          rename_i kq m
          split at hkk
          ·rename_i hm
           simp only [Option.some.injEq] at hkk
           subst hkk
           have:=sim_apz (rt:=rt) (kq:=kq) hs hxT hi h2 h3 hcond h hx he
           rw [Int.toNat_of_nonneg hm] at this
           exact this
          ·cases hkk
         ·cases hc
 ·cases hc
theorem did_ovl {f:FuncId} {n:Nat} {x y:X} {args:Array Operand} {ρ:Operand→Value} (hov:isOvl P f=some n) (h:SR w0 g H w) (hvs:VRs g w ([x,y].map (X.ev R)) (args.toList.map ρ)) (he:ovlT H n (x.ev R) (y.ev R)=some (t,H')) :
  Did P w0 g H w (callFunc f (args.map ρ)) t H':=by
 unfold isOvl at hov
 cases hf:P.funcs[f]? with
 | none=>simp [hf] at hov
 | some fn =>
  simp only [hf] at hov
  cases hp:fn.params[0]? with
  | none=>simp [hp] at hov
  | some tS =>
   simp only [hp] at hov
   cases ht:P.underlying tS with
   | none=>simp [ht] at hov
   | some d =>
    cases d <;> simp only [ht] at hov <;> (try (cases hov;done))
    rename_i e
    cases hi:P.info? e with
    | none=>simp [hi] at hov
    | some ei =>
     simp only [hi] at hov
     split at hov
     ·rename_i hc
      simp only [Option.some.injEq] at hov;subst hov
      simp only [Bool.and_eq_true,noRow,Option.isNone_iff_eq_none,beq_iff_eq,bne_iff_ne,ne_eq] at hc
      obtain ⟨⟨⟨⟨c1,c2⟩,c3⟩,c4⟩,⟨c5,c6⟩,c7⟩:=hc
      have hfind:Extern.find fn=some (Extern.SlicesOverlaps.overlaps fn.params fn.resultTypes):=by
       have r1:Extern.allGenericRows.lookup "slices.overlaps"=none:=by kernel_rfl
       have r2:Extern.allTypedRows.lookup "slices.overlaps"=some Extern.SlicesOverlaps.overlaps:=by kernel_rfl
       unfold Extern.find
       simp only [c4,c5,c6,c7,r1,r2,Option.map_none,Option.map_some]
       rfl
      cases ha:args.toList.map ρ with
      | nil=>rw [ha] at hvs;have:=hvs.1;simp at this
      | cons vx vs =>
       cases vs with
       | nil=>rw [ha] at hvs;have:=hvs.1;simp at this
       | cons vy vs =>
        cases vs with
        | cons _ _=>rw [ha] at hvs;have:=hvs.1;simp at this
        | nil =>
         rw [ha] at hvs
         have hx:VR g w (x.ev R) vx:=hvs.head
         have hy:VR g w (y.ev R) vy:=hvs.tail.head
         have harr:args.map ρ=#[vx,vy]:=by apply Array.ext';simp [ha]
         obtain ⟨v,w',g',h1,h2,h3,h4,h5⟩:=sim_ovl (results:=fn.resultTypes) hp ht hi h hx hy he
         refine ⟨.value v,v,w',g',?_,.inl rfl,h2,h3,h4,h5⟩
         rw [harr,run_callFunc_extern hf (by simpa using c1) (by simp [c2]) c3 hfind,h1]
         rfl
     ·cases hov
theorem did_builtin {bi:Builtin} {tys:List TypeId} {rt:TypeId} {cs:Array Bool} {mu:Bool} {as:List X} {vs:List Value} {b:Bo} (hc:cBuiltin P mu bi tys as=some b) (h:SR w0 g H w) (hv:VRs g w (as.map (X.ev R)) vs) (he:evop R H b=some (t,H')) :
  Did P w0 g H w (builtin bi tys.toArray rt cs vs.toArray) t H':=by
 have two:∀ (x y:X),as=[x,y]→∃ vx vy,vs=[vx,vy]∧VR g w (x.ev R) vx∧VR g w (y.ev R) vy:=by
  rintro x y rfl
  cases vs with
  | nil=>have:=hv.1;simp at this
  | cons vx vs =>
   cases vs with
   | nil=>have:=hv.1;simp at this
   | cons vy vs =>
    cases vs with
    | cons _ _=>have:=hv.1;simp at this
    | nil=>exact ⟨vx,vy,rfl,hv.head,hv.tail.head⟩
 unfold cBuiltin at hc
 split at hc
 ·cases hz:cApz P tys as with
  | some b'=>rw [hz] at hc;simp only [Option.some.injEq] at hc;subst hc;exact (did_apz hz h hv he).did
  | none=>rw [hz] at hc;exact (did_append hc h hv he).did
 ·-- cap
  rename_i ty x
  cases vs with
  | nil=>have:=hv.1;simp at this
  | cons vx vs =>
   cases vs with
   | cons _ _=>have:=hv.1;simp at this
   | nil =>
    have hx:VR g w (x.ev R) vx:=hv.head
    cases hu:P.underlying ty with
    | none=>simp [hu] at hc
    | some d =>
     cases d <;> simp only [hu] at hc <;> (try (cases hc;done))
     simp only [Option.some.injEq] at hc;subst hc
     simp only [evop] at he
     generalize x.ev R=tx at hx he
     cases tx <;> simp only [reduceCtorEq,Option.some.injEq,Prod.mk.injEq] at he
     obtain ⟨rfl,rfl⟩:=he
     exact (sim_cap hu h hx).did
 ·-- copy
  rename_i dT sT x y
  obtain ⟨vx,vy,rfl,hx,hy⟩:=two x y rfl
  cases hu:P.underlying dT with
  | none=>simp [hu] at hc
  | some d =>
   cases d <;> simp only [hu] at hc <;> (try (cases hc;done))
   rename_i e
   cases hi:P.info? e with
   | none=>simp [hi] at hc
   | some ei =>
    simp only [hi,Option.map_some,Option.some.injEq] at hc;subst hc
    simp only [evop] at he
    exact (sim_cpy hu hi h hx hy he).did
 ·-- len
  rename_i ty x
  cases vs with
  | nil=>have:=hv.1;simp at this
  | cons vx vs =>
   cases vs with
   | cons _ _=>have:=hv.1;simp at this
   | nil =>
    have hx:VR g w (x.ev R) vx:=hv.head
    cases hu:P.underlying ty with
    | none=>simp [hu] at hc
    | some d =>
     have hl:∃ k,lcD k d=true∧b=.len k x:=by
      cases d <;> simp [hu] at hc
      ·exact ⟨.str,rfl,hc.symm⟩
      ·exact ⟨.sl,rfl,hc.symm⟩
      ·exact ⟨.map,rfl,hc.symm⟩
     obtain ⟨k,hk,rfl⟩:=hl
     simp only [evop,Option.map_eq_some_iff,Prod.mk.injEq] at he
     obtain ⟨n,h1,rfl,rfl⟩:=he
     exact (sim_len hu hk h hx h1).did
 ·-- clear
  rename_i ty x
  cases vs with
  | nil=>have:=hv.1;simp at this
  | cons vx vs =>
   cases vs with
   | cons _ _=>have:=hv.1;simp at this
   | nil =>
    have hx:VR g w (x.ev R) vx:=hv.head
    cases hu:P.underlying ty with
    | none=>simp [hu] at hc
    | some d =>
     cases d <;> simp only [hu] at hc <;> (try (cases hc;done))
     rename_i e
     cases hi:P.info? e with
     | none=>simp [hi] at hc
     | some ei =>
      cases hz:zeroOf P e with
      | none=>simp [hi,hz] at hc
      | some z =>
       simp only [hi,hz,Option.some.injEq] at hc;subst hc
       obtain ⟨i,zv,k1,k2,k3⟩:=zeroOf_ok hz
       rw [hi] at k1;cases k1
       simp only [evop] at he
       generalize x.ev R=tx at hx he
       cases tx <;> (try (simp only [reduceCtorEq] at he;done))
       rename_i bb off len n'
       simp only at he
       cases hb:H[bb]? with
       | none=>simp [hb] at he
       | some y =>
        cases y <;> simp only [hb] at he <;> (try (cases he;done))
        rename_i cs'
        split at he
        ·rename_i hcc
         obtain ⟨rfl,hzl,hle⟩:=hcc
         simp only [Option.some.injEq,Prod.mk.injEq] at he
         obtain ⟨rfl,rfl⟩:=he
         exact (sim_clr hu hi k2 k3 h hx hb hzl hle).did
        ·cases he
 ·rename_i x y
  obtain ⟨vx,vy,rfl,hx,hy⟩:=two x y rfl
  simp at hc;subst hc
  simp only [evop] at he
  generalize x.ev R=tx at hx he
  generalize y.ev R=tyy at hy he
  cases tx <;> cases tyy <;> simp only [reduceCtorEq,Option.some.injEq,Prod.mk.injEq] at he
  obtain ⟨rfl,rfl⟩:=he
  exact (sim_mn h hx hy).did
 ·rename_i x y
  obtain ⟨vx,vy,rfl,hx,hy⟩:=two x y rfl
  simp at hc;subst hc
  simp only [evop] at he
  generalize x.ev R=tx at hx he
  generalize y.ev R=tyy at hy he
  cases tx <;> cases tyy <;> simp only [reduceCtorEq,Option.some.injEq,Prod.mk.injEq] at he
  obtain ⟨rfl,rfl⟩:=he
  exact (sim_mx h hx hy).did
 ·-- delete
  rename_i ty xt m k
  obtain ⟨vm,vk,rfl,hm,hk⟩:=two m k rfl
  cases hu:P.underlying ty with
  | none=>simp [hu] at hc
  | some d =>
   cases d <;> simp only [hu] at hc <;> (try (cases hc;done))
   rename_i key elem
   cases hkt:compKT P key with
   | none=>simp [hkt] at hc
   | some kt =>
    simp only [hkt] at hc
    split at hc
    ·rename_i hok
     simp at hc;subst hc
     simp only [evop] at he
     generalize m.ev R=tm at hm he
     cases tm <;> (try simp only [reduceCtorEq] at he)
     rename_i bb
     split at he
     ·rename_i hhk
      cases hb:H[bb]? with
      | none=>simp [hb] at he
      | some z =>
       cases z <;> simp only [hb] at he <;> (try (cases he;done))
       rename_i es
       cases hr:mfind (k.ev R) es with
       | none=>simp [hr] at he
       | some r =>
        have:=sim_del (rt:=rt) (xt:=xt) hu hok h hm hk hhk hb hr
        cases r with
        | none=>simp only [hr,Option.some.injEq,Prod.mk.injEq] at he;obtain ⟨rfl,rfl⟩:=he;exact this.did
        | some i=>simp only [hr,Option.some.injEq,Prod.mk.injEq] at he;obtain ⟨rfl,rfl⟩:=he;exact this.did
     ·cases he
    ·cases hc
 ·cases hc
theorem cMap_ok {ty:TypeId} {m k:X} {e:Nat} {kt:KT} {z:T} (h:cMap P ty m k=some (e,kt,z)):∃ key ei zv,P.underlying ty=some (.map key e)∧P.info? e=some ei∧ei.zero=some zv∧constT zv=some z∧ktOk P key kt=true:=by
 unfold cMap at h
 cases hu:P.underlying ty with
 | none=>simp [hu] at h
 | some d =>
  cases d <;> simp only [hu] at h <;> (try (cases h;done))
  rename_i key e'
  cases h1:compKT P key with
  | none=>simp [h1] at h
  | some kt' =>
   cases h2:P.info? e' with
   | none=>simp [h1,h2] at h
   | some ei =>
    simp only [h1,h2] at h
    cases h3:ei.zero with
    | none=>simp [h3] at h
    | some zv =>
     simp only [h3] at h
     cases h4:constT zv with
     | none=>simp [h4] at h
     | some z' =>
      simp only [h4] at h
      split at h
      ·rename_i hok
       simp at h
       obtain ⟨rfl,rfl,rfl⟩:=h
       exact ⟨key,ei,zv,rfl,h2,h3,h4,hok⟩
      ·cases h
theorem did_upm {ty:TypeId} {m k v:X} {vm vk vv:Value} {e:Nat} {kt:KT} {z:T} (hc:cMap P ty m k=some (e,kt,z)) (h:SR w0 g H w) (hm:VR g w (m.ev R) vm) (hk:VR g w (k.ev R) vk) (hv:VR g w (v.ev R) vv) (he:evop R H (.upm kt m k v)=some (t,H')) :
  Did P w0 g H w (do Instr.mapUpdate ty vm vk vv;pure Next.skip) t H':=by
 obtain ⟨key,ei,zv,hu,hi,hz,hz',hok⟩:=cMap_ok hc
 simp only [evop] at he
 generalize m.ev R=tm at hm he
 cases tm <;> (try simp only [reduceCtorEq] at he)
 rename_i bb
 split at he
 ·rename_i hhk
  cases hb:H[bb]? with
  | none=>simp [hb] at he
  | some y =>
   cases y <;> simp only [hb] at he <;> (try (cases he;done))
   rename_i es
   cases hr:mfind (k.ev R) es with
   | none=>simp [hr] at he
   | some r =>
    obtain ⟨w',g',h1,h2,h3,h4⟩:=sim_upm hu hok h hm hk hv hhk hb hr
    cases r with
    | none=>simp only [hr,Option.some.injEq,Prod.mk.injEq] at he;obtain ⟨rfl,rfl⟩:=he;exact ⟨.skip,undef,w',g',by simp [h1],.inr ⟨rfl,rfl⟩,h2,h3,undef_vr,h4⟩
    | some i=>simp only [hr,Option.some.injEq,Prod.mk.injEq] at he;obtain ⟨rfl,rfl⟩:=he;exact ⟨.skip,undef,w',g',by simp [h1],.inr ⟨rfl,rfl⟩,h2,h3,undef_vr,h4⟩
 ·cases he
theorem did_lkp {ty:TypeId} {m k:X} {vm vk:Value} {e:Nat} {kt:KT} {z:T} {ok:Bool} (hc:cMap P ty m k=some (e,kt,z)) (h:SR w0 g H w) (hm:VR g w (m.ev R) vm) (hk:VR g w (k.ev R) vk) (he:evop R H (.lkp kt z ok m k)=some (t,H')) :
  Sim P w0 g H w (Instr.lookup ty vm vk ok) t H':=by
 obtain ⟨key,ei,zv,hu,hi,hz,hz',hok⟩:=cMap_ok hc
 simp only [evop] at he
 split at he
 ·rename_i hhk
  cases hes:mapEs H (m.ev R) with
  | none=>simp [hes] at he
  | some es =>
   simp only [hes] at he
   cases hr:mfind (k.ev R) es with
   | none=>simp [hr] at he
   | some r =>
    cases r with
    | none =>
     simp only [hr,Option.some.injEq,Prod.mk.injEq] at he
     obtain ⟨rfl,rfl⟩:=he
     exact sim_lkp hu hi hz hz' hok h hm hk hhk hes hr rfl
    | some i =>
     simp only [hr] at he
     cases hx:es[i]? with
     | none=>simp [hx] at he
     | some x =>
      simp only [hx,Option.some.injEq,Prod.mk.injEq] at he
      obtain ⟨rfl,rfl⟩:=he
      exact sim_lkp hu hi hz hz' hok h hm hk hhk hes hr (by simp [hx])
 ·cases he
theorem did_build {ty:TypeId} {ps:List (Nat × X)} {pv:List (Nat × Value)} {b:Bo} (hc:cBuild P ty ps=some b) (h:SR w0 g H w) (hv:PV g w R ps pv) (he:evop R H b=some (t,H')):Sim P w0 g H w (Instr.build ty pv.toArray) t H':=by
 unfold cBuild at hc
 cases hu:P.underlying ty with
 | none=>simp [hu] at hc
 | some d =>
  cases hz:zeroOf P ty with
  | none=>cases d <;> simp [hu,hz] at hc
  | some z =>
   cases d <;> simp only [hu,hz] at hc <;> (try (cases hc;done))
   rename_i fs
   split at hc
   ·rename_i hcond
    simp only [Bool.and_eq_true] at hcond
    simp only [Option.some.injEq] at hc;subst hc
    obtain ⟨i,zv,h1,h2,h3⟩:=zeroOf_ok hz
    simp only [evop] at he
    split at he
    ·rename_i l hl
     simp only [Option.map_eq_some_iff,Prod.mk.injEq] at he
     obtain ⟨cs,h4,rfl,rfl⟩:=he
     refine sim_build hu h1 h2 h3 (fun f hf=>?_) (fun p hp=>?_) h hv hl h4
     ·have:=hcond.1
      simp only [fieldsOk,List.all_eq_true] at this
      exact Option.isSome_iff_exists.1 (this f hf)
     ·have:=hcond.2
      simp only [List.all_eq_true,decide_eq_true_eq] at this
      exact this p hp
    ·cases he
   ·cases hc
theorem did_bsl {ty:TypeId} {n:Nat} {ps:List (Nat × X)} {pv:List (Nat × Value)} {b:Bo} {mu:Bool} (hc:cBsl P mu ty n ps=some b) (h:SR w0 g H w) (hv:PV g w R ps pv) (he:evop R H b=some (t,H')):Sim P w0 g H w (Instr.buildSlice ty n pv.toArray) t H':=by
 unfold cBsl at hc
 cases hu:P.underlying ty with
 | none=>simp [hu] at hc
 | some d =>
  cases d <;> simp only [hu] at hc <;> (try (cases hc;done))
  rename_i e
  cases hi:P.info? e with
  | none=>simp [hi] at hc
  | some ei =>
   cases hz:zeroOf P e with
   | none=>simp [hi,hz] at hc
   | some z =>
    simp only [hi,hz] at hc
    split at hc
    ·rename_i hcond
     simp only [Bool.and_eq_true,beq_iff_eq,decide_eq_true_eq] at hcond
     simp at hc;subst hc
     obtain ⟨i,zv,h1,h2,h3⟩:=zeroOf_ok hz
     rw [hi] at h1;cases h1
     cases mu with
     | false =>
      simp only [Bool.false_eq_true,if_false,evop,Option.map_eq_some_iff,Prod.mk.injEq] at he
      obtain ⟨fs,h4,rfl,rfl⟩:=he
      exact sim_bsl hu hi h2 h3 hcond.1 hcond.2 h hv h4
     | true =>
      simp only [if_true,evop,Option.bind_eq_some_iff] at he
      obtain ⟨fs,h4,he⟩:=he
      split at he
      ·simp only [Option.some.injEq,Prod.mk.injEq] at he
       obtain ⟨rfl,rfl⟩:=he
       exact sim_bsm hu hi h2 h3 hcond.1 hcond.2 h hv h4
      ·cases he
    ·cases hc
theorem did_mks {ty:TypeId} {mu:Bool} {l c:X} {vl vc:Value} {b:Bo} (hc:cMks P mu ty l c=some b) (h:SR w0 g H w) (hl:VR g w (l.ev R) vl) (hcv:VR g w (c.ev R) vc) (he:evop R H b=some (t,H')):Sim P w0 g H w (Instr.makeSlice ty vl vc) t H':=by
 unfold cMks at hc
 cases hu:P.underlying ty with
 | none=>simp [hu] at hc
 | some d =>
  cases d <;> simp only [hu] at hc <;> (try (cases hc;done))
  rename_i e
  cases hi:P.info? e with
  | none=>simp [hi] at hc
  | some ei =>
   cases hz:zeroOf P e with
   | none=>simp [hi,hz] at hc
   | some z =>
    simp only [hi,hz] at hc
    split at hc
    ·rename_i hcond
     simp only [Bool.and_eq_true,beq_iff_eq,bne_iff_ne] at hcond
     simp at hc;subst hc
     obtain ⟨i,zv,h1,h2,h3⟩:=zeroOf_ok hz
     rw [hi] at h1;cases h1
     simp only [evop] at he
     cases hnl:natOf (l.ev R) with
     | none=>simp [hnl] at he
     | some nl =>
      cases hnc:natOf (c.ev R) with
      | none=>simp [hnl,hnc] at he
      | some nc =>
       simp only [hnl,hnc] at he
       split at he
       ·rename_i hcnd
        refine sim_mks (mu:=mu) hu hi h2 h3 hcond.1 hcond.2 h hl hcv hnl hnc hcnd.1 hcnd.2.1 hcnd.2.2 ?_
        cases mu with
        | true=>simpa using he
        | false =>
         simp only [Bool.false_eq_true,if_false] at he ⊢
         split at he
         ·rename_i e0;rw [if_pos e0];simpa using he
         ·rename_i e0;rw [if_neg e0];simpa using he
       ·cases he
    ·cases hc
theorem RV.get {xs:List Operand} (h:RV g w R ρ xs) {x:Operand} {y:X} (hx:x∈xs) (hc:compX x=some y):VR g w (y.ev R) (ρ x):=h x hx y hc
theorem sim_op {mu:Bool} {o:Oper} {b:Bo} (hρ:∀ f:FuncId,ρ (.func f)=.func (.func f) #[] #[]) (hc:compOp P mu o.op=some b) (h:SR w0 g H w) (hv:RV g w R ρ o.op.operands.toList) (he:evop R H b=some (t,H')):Did P w0 g H w (execOp ρ o) t H':=by
 obtain ⟨dst,op,ty,pos,after,guard⟩:=o
 cases op <;> simp only [compOp] at hc <;> (try (cases hc;done)) <;> simp only [Op.operands] at hv
 case move x =>
  simp only [Option.map_eq_some_iff] at hc
  obtain ⟨y,h1,rfl⟩:=hc
  simp only [evop,Option.some.injEq,Prod.mk.injEq] at he
  obtain ⟨rfl,rfl⟩:=he
  exact ⟨_,_,w,g,rfl,.inl rfl,.refl _ _,h,hv.get (by simp) h1,.refl _ _⟩
 case assign x =>
  simp only [Option.map_eq_some_iff] at hc
  obtain ⟨y,h1,rfl⟩:=hc
  simp only [evop,Option.some.injEq,Prod.mk.injEq] at he
  obtain ⟨rfl,rfl⟩:=he
  exact ⟨_,_,w,g,rfl,.inl rfl,.refl _ _,h,hv.get (by simp) h1,.refl _ _⟩
 case pick c x y =>
  cases h1:compX c with
  | none=>simp [h1] at hc
  | some c' =>
   cases h2:compX x with
   | none=>simp [h1,h2] at hc
   | some x' =>
    cases h3:compX y with
    | none=>simp [h1,h2,h3] at hc
    | some y' =>
     simp only [h1,h2,h3,Option.some.injEq] at hc
     subst hc
     have vc:=hv.get (by simp) h1
     have vx:=hv.get (by simp) h2
     have vy:=hv.get (by simp) h3
     simp only [evop] at he
     generalize c'.ev R=tc at vc he
     cases tc <;> (try simp only [reduceCtorEq] at he)
     simp only [Option.some.injEq,Prod.mk.injEq] at he
     obtain ⟨rfl,rfl⟩:=he
     obtain ⟨v,w',g',k1,k2⟩:=sim_pick (P:=P) h vc vx vy
     refine ⟨.value v,v,w',g',?_,.inl rfl,k2⟩
     simp only [execOp,Sem.run_bind,Sem.run_pure] at k1 ⊢
     generalize (asBool (ρ c)).run P w=r at k1 ⊢
     cases r <;> simp_all
 case alloc ty' =>
  simp only [Option.map_eq_some_iff] at hc
  obtain ⟨z,h1,rfl⟩:=hc
  obtain ⟨i,zv,h2,h3,h4⟩:=zeroOf_ok h1
  simp only [evop,Option.some.injEq,Prod.mk.injEq] at he
  obtain ⟨rfl,rfl⟩:=he
  exact (sim_alloc h2 h3 h4 h).did
 case box ty' x =>
  simp only [Option.map_eq_some_iff] at hc
  obtain ⟨y,h1,rfl⟩:=hc
  simp only [evop,Option.map_eq_some_iff,Prod.mk.injEq] at he
  obtain ⟨cs,h2,rfl,rfl⟩:=he
  exact (sim_box h (hv.get (by simp) h1) h2).did
 case build ty' ps =>
  simp only [Option.bind_eq_some_iff] at hc
  obtain ⟨qs,h1,h2⟩:=hc
  have hp:=compPs_ok (ρ:=ρ) _ _ h1 (by simpa using hv)
  have:=(did_build h2 h hp he).did
  have e:(ps.map fun x=>(x.1,ρ x.2))=(ps.toList.map fun p=>(p.1,ρ p.2)).toArray:=by apply Array.ext';simp
  simp only [execOp]
  rw [e];exact this
 case buildSlice ty' n ps =>
  simp only [Option.bind_eq_some_iff] at hc
  obtain ⟨qs,h1,h2⟩:=hc
  have hp:=compPs_ok (ρ:=ρ) _ _ h1 (by simpa using hv)
  have:=(did_bsl h2 h hp he).did
  have e:(ps.map fun x=>(x.1,ρ x.2))=(ps.toList.map fun p=>(p.1,ρ p.2)).toArray:=by apply Array.ext';simp
  simp only [execOp]
  rw [e];exact this
 case insert ty' m k v =>
  cases h1:compX m with
  | none=>simp [h1] at hc
  | some m' =>
   cases h2:compX k with
   | none=>simp [h1,h2] at hc
   | some k' =>
    cases h3:compX v with
    | none=>simp [h1,h2,h3] at hc
    | some v' =>
     simp only [h1,h2,h3,Option.map_eq_some_iff] at hc
     obtain ⟨⟨e,kt,z⟩,h4,rfl⟩:=hc
     exact did_upm h4 h (hv.get (by simp) h1) (hv.get (by simp) h2) (hv.get (by simp) h3) he
 case mapUpdate ty' m k v =>
  cases h1:compX m with
  | none=>simp [h1] at hc
  | some m' =>
   cases h2:compX k with
   | none=>simp [h1,h2] at hc
   | some k' =>
    cases h3:compX v with
    | none=>simp [h1,h2,h3] at hc
    | some v' =>
     simp only [h1,h2,h3,Option.map_eq_some_iff] at hc
     obtain ⟨⟨e,kt,z⟩,h4,rfl⟩:=hc
     exact did_upm h4 h (hv.get (by simp) h1) (hv.get (by simp) h2) (hv.get (by simp) h3) he
 case load ty' x =>
  simp only [Option.bind_eq_some_iff] at hc
  obtain ⟨y,h1,h2⟩:=hc
  exact did_load h2 h (hv.get (by simp) h1) he
 case store ty' a v =>
  cases h1:P.info? ty' with
  | none=>simp [h1] at hc
  | some i =>
   cases h2:compX a with
   | none=>simp [h1,h2] at hc
   | some a' =>
    cases h3:compX v with
    | none=>simp [h1,h2,h3] at hc
    | some v' =>
     simp only [h1,h2,h3,Option.some.injEq] at hc
     subst hc
     simp only [evop] at he
     cases h4:(v'.ev R).cells? with
     | none=>simp [h4] at he
     | some vs =>
      simp only [h4] at he
      split at he
      ·rename_i hn
       simp only [Option.map_eq_some_iff,Prod.mk.injEq] at he
       obtain ⟨H1,h5,rfl,rfl⟩:=he
       obtain ⟨w',g',k1,k2,k3,k4⟩:=sim_st (P:=P) h1 h (hv.get (by simp) h2) (hv.get (by simp) h3) h4 hn h5
       exact ⟨.skip,undef,w',g',by simp [execOp,k1],.inr ⟨rfl,rfl⟩,k2,k3,undef_vr,k4⟩
      ·cases he
 case nilCheck x =>
  simp only [Option.map_eq_some_iff] at hc
  obtain ⟨y,h1,rfl⟩:=hc
  have vx:=hv.get (by simp) h1
  simp only [evop] at he
  have key:t=y.ev R∧H'=H∧∃ v,(execOp ρ ⟨dst,.nilCheck x,ty,pos,after,guard⟩).run P w=.ok (.value v) w∧v=ρ x:=by
   simp only [execOp]
   generalize y.ev R=tx at vx he
   generalize ρ x=vv at vx
   cases vx <;> simp only [reduceCtorEq,Option.some.injEq,Prod.mk.injEq] at he <;> obtain ⟨rfl,rfl⟩:=he <;> exact ⟨rfl,rfl,_,rfl,rfl⟩
  obtain ⟨rfl,rfl,v,k1,rfl⟩:=key
  exact ⟨_,_,w,g,k1,.inl rfl,.refl _ _,h,vx,.refl _ _⟩
 case binOp op ty' x y yt =>
  cases h1:compX x with
  | none=>simp [h1] at hc
  | some x' =>
   cases h2:compX y with
   | none=>simp [h1,h2] at hc
   | some y' =>
    simp only [h1,h2] at hc
    exact did_bin hc h (hv.get (by simp) h1) (hv.get (by simp) h2) he
 case unOp op ty' x =>
  simp only [Option.map_eq_some_iff] at hc
  obtain ⟨y,h1,rfl⟩:=hc
  simp only [evop,Option.map_eq_some_iff,Prod.mk.injEq] at he
  obtain ⟨t',h2,rfl,rfl⟩:=he
  exact (sim_un h (hv.get (by simp) h1) h2).did
 case convert s d x =>
  simp only [Option.bind_eq_some_iff] at hc
  obtain ⟨y,h1,h2⟩:=hc
  exact did_conv h2 h (hv.get (by simp) h1) he
 case makeFunc fn first caps =>
  cases fn <;> simp only [compOp] at hc <;> (try (cases hc;done))
  rename_i f
  split at hc
  ·rename_i h0
   simp only [Option.map_eq_some_iff] at hc
   obtain ⟨ys,h1,rfl⟩:=hc
   have:first=#[]:=Array.eq_empty_of_size_eq_zero h0
   subst this
   simp only [evop,Option.some.injEq,Prod.mk.injEq] at he
   obtain ⟨rfl,rfl⟩:=he
   have hvs:=compXs_ok (ρ:=ρ) _ _ h1 (fun x hx=>hv x (by simpa using hx))
   have:=(sim_mkf (P:=P) (f:=f) h hvs).did
   have e:caps.map ρ=(caps.toList.map ρ).toArray:=by apply Array.ext';simp
   have e0:(#[]:Array Operand).map ρ=#[]:=by simp
   simp only [execOp]
   rw [e,e0];exact this
  ·cases hc
 case range ty' m =>
  cases hu:P.underlying ty' with
  | none=>simp [hu] at hc
  | some d =>
   cases d <;> simp only [hu] at hc <;> (try (cases hc;done))
   simp only [Option.map_eq_some_iff] at hc
   obtain ⟨y,h1,rfl⟩:=hc
   have vm:=hv.get (by simp) h1
   simp only [evop] at he
   generalize y.ev R=tm at vm he
   cases tm <;> (try (simp only [reduceCtorEq] at he;done))
   rename_i bb
   simp only [Option.map_eq_some_iff,Prod.mk.injEq] at he
   obtain ⟨es,h2,rfl,rfl⟩:=he
   exact (sim_rng hu h vm h2).did
 case next it str =>
  cases str <;> simp only [compOp] at hc <;> (try (cases hc;done))
  simp only [Option.map_eq_some_iff] at hc
  obtain ⟨y,h1,rfl⟩:=hc
  simp [evop] at he
 case entry it =>
  simp only [Option.map_eq_some_iff] at hc
  obtain ⟨y,h1,rfl⟩:=hc
  have vm:=hv.get (by simp) h1
  simp only [evop] at he
  generalize y.ev R=tm at vm he
  cases tm <;> (try (simp only [reduceCtorEq] at he;done))
  rename_i bi off
  cases off with
  | succ _=>simp at he
  | zero =>
   simp only at he
   cases hi:H[bi]? with
   | none=>simp [hi] at he
   | some yi =>
    cases yi <;> simp only [hi] at he <;> (try (cases he;done))
    rename_i bb
    cases hb:H[bb]? with
    | none=>simp [hb] at he
    | some yb =>
     cases yb <;> simp only [hb] at he <;> (try (cases he;done))
     rename_i es ix bi' cur
     cases cur with
     | none=>simp at he
     | some c =>
      simp only at he
      split at he
      ·rename_i e;subst e
       simp only [Option.map_eq_some_iff,Prod.mk.injEq] at he
       obtain ⟨e,h2,rfl,rfl⟩:=he
       exact (sim_ent h vm hb h2).did
      ·cases he
 case makeMap ty' r =>
  cases r with
  | some _=>simp [compOp] at hc
  | none =>
   simp only [compOp,Option.some.injEq] at hc
   subst hc
   simp only [evop,Option.some.injEq,Prod.mk.injEq] at he
   obtain ⟨rfl,rfl⟩:=he
   exact (sim_mkm h).did
 case makeSlice ty' l c =>
  cases h1:compX l with
  | none=>simp [h1] at hc
  | some l' =>
   cases h2:compX c with
   | none=>simp [h1,h2] at hc
   | some c' =>
    simp only [h1,h2] at hc
    exact (did_mks hc h (hv.get (by simp) h1) (hv.get (by simp) h2) he).did
 case slice ty' x lo hi mx =>
  cases h1:compX x with
  | none=>simp [h1] at hc
  | some x' =>
   cases h2:compXo lo with
   | none=>simp [h1,h2] at hc
   | some lo' =>
    cases h3:compXo hi with
    | none=>simp [h1,h2,h3] at hc
    | some hi' =>
     cases h4:compXo mx with
     | none=>simp [h1,h2,h3,h4] at hc
     | some mx' =>
      simp only [h1,h2,h3,h4] at hc
      exact did_slice hc h (hv.get (by simp) h1) (compXo_ok h2 (fun z hz=>hv z (by simp;simp at hz;simp [hz]))) (compXo_ok h3 (fun z hz=>hv z (by simp;simp at hz;simp [hz]))) (compXo_ok h4 (fun z hz=>hv z (by simp;simp at hz;simp [hz]))) he
 case fieldAddr ty' x f =>
  simp only [Option.bind_eq_some_iff] at hc
  obtain ⟨y,h1,h2⟩:=hc
  exact (did_field h2 h (hv.get (by simp) h1) he).did
 case field ty' x f =>
  simp only [Option.bind_eq_some_iff] at hc
  obtain ⟨y,h1,h2⟩:=hc
  exact (did_field h2 h (hv.get (by simp) h1) he).did
 case indexAddr ty' x i =>
  cases h1:compX x with
  | none=>simp [h1] at hc
  | some x' =>
   cases h2:compX i with
   | none=>simp [h1,h2] at hc
   | some i' =>
    simp only [h1,h2] at hc
    exact (did_idx hc h (hv.get (by simp) h1) (hv.get (by simp) h2) he).did
 case index ty' x i =>
  cases h1:compX x with
  | none=>simp [h1] at hc
  | some x' =>
   cases h2:compX i with
   | none=>simp [h1,h2] at hc
   | some i' =>
    simp only [h1,h2] at hc
    exact (did_idx hc h (hv.get (by simp) h1) (hv.get (by simp) h2) he).did
 case lookup ty' m k ok =>
  cases h1:compX m with
  | none=>simp [h1] at hc
  | some m' =>
   cases h2:compX k with
   | none=>simp [h1,h2] at hc
   | some k' =>
    simp only [h1,h2,Option.map_eq_some_iff] at hc
    obtain ⟨⟨e,kt,z⟩,h4,rfl⟩:=hc
    exact (did_lkp h4 h (hv.get (by simp) h1) (hv.get (by simp) h2) he).did
 case extract x i =>
  simp only [Option.map_eq_some_iff] at hc
  obtain ⟨y,h1,rfl⟩:=hc
  have vx:=hv.get (by simp) h1
  simp only [evop] at he
  generalize y.ev R=tx at vx he
  cases tx <;> (try simp only [reduceCtorEq] at he)
  simp only [Option.map_eq_some_iff,Prod.mk.injEq] at he
  obtain ⟨t',h2,rfl,rfl⟩:=he
  exact (sim_ext h vx h2).did
 case call c =>
  obtain ⟨callee,args,tys⟩:=c
  cases callee
  case value cv =>
   cases cv <;> simp only [compOp] at hc <;> (try (cases hc;done))
   rename_i f
   split at hc
   ·rename_i n x y hov h1
    simp only [Option.some.injEq] at hc;subst hc
    have hvs:=compXs_ok (ρ:=ρ) _ _ h1 (fun x hx=>hv x (by simp [Call.operands];exact .inr (by simpa using hx)))
    simp only [evop] at he
    have hd:=did_ovl hov h hvs he
    simpa [execOp,resolve,hρ,Deferred.ofValue,invoke] using hd
   ·cases hc
  all_goals simp only [compOp] at hc <;> (try (cases hc;done))
  rename_i bi
  simp only [Option.bind_eq_some_iff] at hc
  obtain ⟨as,h1,h2⟩:=hc
  have hvs:=compXs_ok (ρ:=ρ) _ _ h1 (fun x hx=>hv x (by simpa [Call.operands] using hx))
  have e:args.map ρ=(args.toList.map ρ).toArray:=by apply Array.ext';simp
  have e2:tys=tys.toList.toArray:=by simp
  have:=did_builtin (rt:=ty) (cs:=args.map fun | .const _=>true | _=>false) h2 h hvs he
  simp only [execOp,resolve,pure_bind,invoke]
  rw [e,e2]
  exact this
end
section
variable {P:Program} {w0 w:World} {g:Ctx} {H:Heap}
theorem SR.setblk {b r o q:Nat} {x x':Obj} {y y':B} (h:SR w0 g H w) (hb:H[b]?=some y) (hφ:g.φ b=some (r,o,q)) (h1:g.κ r 0=.mut b) (hr:w.heap[r]?=some x) (hs:solid x=true) (hs':solid x'=true)
  (hok:∀ w',Le g w g w'→w'.heap[r]?=some x'→BlkOk g w' b y') :
  Le g w g (w.putObj r x')∧SR w0 g (H.set b y') (w.putObj r x')∧Fr g H g (H.set b y'):=by
 have hbl:b<H.length:=(List.getElem?_eq_some_iff.1 hb).1
 have tr:Tr w (w.putObj r x') none2 (fun r'=>r'=r):=Tr.setobj w r hs hs' hr
 have le:Le g w g (w.putObj r x'):=Le.of_tr tr (fun _ _ h=>h) (fun _ _ h=>h) (fun _ _ _ h=>h) (fun _ _ hs=>hs.elim)
 refine ⟨le,h.step (fun b'=>b'=b) tr le (fun _ _ hs=>hs.elim) (fun r' hm=>⟨b,by rw [hm];exact h1,rfl⟩) (fun r' j hr'=>h.fresh r' j (by simpa [World.putObj] using hr')) (fun b' x hx=>by rw [List.length_set];exact h.dom b' x hx)
  (fun t e x hx=>by rw [List.length_set];exact h.domt t e x hx) (fun _ _ _=>rfl) (fun _ _ _ _=>⟨id,id⟩) (fun _ _ _ _=>rfl) (fun b' x hx=>?_),by simp,fun b' x a _ d=>⟨set_ne a (by rintro rfl;rw [hφ] at d;cases d),d⟩⟩
 rcases set_get hbl hx with ⟨rfl,rfl⟩ | ⟨hne,hx'⟩
 ·exact .inr (hok _ le (World.putObj_heap_same (Array.getElem?_eq_some_iff.1 hr).1))
 ·exact .inl ⟨hne,hx'⟩
theorem SR.newblk {x:Obj} {y:B} (h:SR w0 g H w) (hsx:solid x=true)
  (hok:∀ g' w',Le g w g' w'→g'.κ w.heap.size 0=.mut H.length→g'.φ H.length=some (w.heap.size,0,0)→w'.heap[w.heap.size]?=some x→BlkOk g' w' H.length y) :
  ∃ g',Le g w g' (w.alloc x)∧SR w0 g' (H++[y]) (w.alloc x)∧Fr g H g' (H++[y])∧g'.φ H.length=some (w.heap.size,0,0):=by
 have tr':=Tr.alloc w x (.inl hsx)
 have hne:∀ r j ow,g.κ r j=ow→ow≠.free→r≠w.heap.size:=by rintro r j ow e hn rfl;exact hn (e ▸ h.fresh _ j (Nat.le_refl _))
 have hnφ:=h.noφ (b:=H.length) (Nat.le_refl _)
 have le:Le g w ((g.row w.heap.size fun _=>.mut H.length).at H.length (w.heap.size,0,0)) (w.alloc x):=Le.of_tr tr'
  (fun b' x hx=>by simp only [Ctx.at,Ctx.row];split;rename_i e;subst e;rw [hnφ] at hx;simp at hx;exact hx)
  (fun r o hk=>by simp only [Ctx.row,Ctx.at];rw [if_neg (hne r o _ hk (by simp))];exact hk) (fun _ _ _ h=>h) (fun _ _ hs=>hs.elim)
 refine ⟨_,le,?_,⟨by simp,fun b x a _ d=>⟨get_old a,?_⟩⟩,by simp [Ctx.at]⟩
 ·refine h.step (fun b'=>b'=H.length) tr' le (fun _ _ hs=>hs.elim) (fun _ hm=>hm.elim) (fun r o hr=>?_) (fun b' x hx=>?_) (fun t e x hx=>by have:=h.domt t e x hx;simp;omega) (fun b' _ hb'=>?_) (fun r j b' hb'=>?_) (fun _ _ _ _=>rfl) (fun b' x hx=>?_)
  ·simp at hr
   simp only [Ctx.row,Ctx.at];rw [if_neg (by omega)];exact h.fresh r o (by omega)
  ·simp only [Ctx.at,Ctx.row] at hx
   split at hx
   ·rename_i e;subst e;simp
   ·have:=h.dom b' x hx;simp;omega
  ·simp only [Ctx.at,Ctx.row];rw [if_neg hb']
  ·constructor <;> intro e <;> simp only [Ctx.row,Ctx.at] <;> rw [if_neg (hne r j _ e (by simp))] <;> exact e
  ·by_cases e:b'=H.length
   ·subst e
    rw [get_tail] at hx;cases hx
    exact .inr (hok _ _ le (by simp [Ctx.row,Ctx.at]) (by simp [Ctx.at]) (World.alloc_heap_new w _))
   ·exact .inl ⟨e,get_tail_ne e hx⟩
 ·have:=(List.getElem?_eq_some_iff.1 a).1
  simp only [Ctx.at,Ctx.row];rw [if_neg (by omega)];exact d
theorem SR.freeze {b:Nat} {cs:List T} (h:SR w0 g H w) (hb:H[b]?=some (.cells cs)) (hφ:∃ x,g.φ b=some x) :
  ∃ g',Le g w g' w∧SR w0 g' (H.set b .dead) w∧Fr g H g' (H.set b .dead)∧∀ t v,VR g w t v→VR g' w (frzV b cs t) v:=by
 let g':Ctx:={ g with κ:=fun r o=>if g.κ r o=.mut b then .imm else g.κ r o }
 have le:Le g w g' w:=⟨fun _ _ h=>h,fun r o e=>by simp only [g'];rw [e];simp,fun _ _ _ h=>h,fun _ _ _ _ h=>h,rfl⟩
 have hbl:b<H.length:=(List.getElem?_eq_some_iff.1 hb).1
 have tr:Tr w w (fun _ _=>False) (fun _=>False):=⟨Nat.le_refl _,fun _ _ _ _=>rfl,fun _ _ _=>rfl,fun _ _ _ h=>h,fun _ _ _ _ h=>h,fun _ _ _ _=>rfl,fun r j hr=>frozen_none hr,rfl,rfl⟩
 have sr:SR w0 g' (H.set b .dead) w:=by
  refine h.step (fun b'=>b'=b) tr le (fun _ _ h=>h.elim) (fun _ h=>h.elim) (fun r o hr=>?_) (fun b' x hx=>?_) (fun t e x hx=>?_) (fun _ _ _=>rfl) (fun r j b' hne=>⟨fun e=>?_,fun e=>?_⟩) (fun _ _ _ _=>rfl) (fun b' x hx=>?_)
  ·simp only [g'];rw [h.fresh r o hr];simp
  ·rw [List.length_set];exact h.dom b' x hx
  ·rw [List.length_set];exact h.domt t e x hx
  ·simp only [g'];rw [e,if_neg (by simpa using hne)]
  ·simp only [g'];rw [e,if_neg (by simp)]
  ·rcases set_get hbl hx with ⟨rfl,rfl⟩ | ⟨hne,hx'⟩
   ·exact .inr trivial
   ·exact .inl ⟨hne,hx'⟩
 have one:∀ t v,VR g w t v→VR g' w (frz1 b cs t) v:=by
  intro t v hv
  cases t with
  | msl b' off len n =>
   simp only [frz1]
   split
   ·rename_i hc
    obtain ⟨rfl,hle⟩:=hc
    cases hv with
    | @msl _ _ _ _ r o q cap hp hc hq =>
     obtain ⟨c1,c2,c3⟩:=h.blk _ _ hb r o q hp
     have hlen:(frzE cs off len n).length=len:=by simp [frzE]
     have hget:∀ (i j:Nat) (c:List T) (t:T),(frzE cs off len n)[i]?=some c→c[j]?=some t→j<n∧i<len∧cs[off+i*n+j]?=some t:=by
      intro i j c t hi hj
      have hil:i<len:=by have:=(List.getElem?_eq_some_iff.1 hi).1;rw [hlen] at this;exact this
      simp only [frzE,List.getElem?_map,List.getElem?_range hil,Option.map_some,Option.some.injEq] at hi
      subst hi
      rw [List.getElem?_take] at hj
      split at hj
      ·rename_i hjn
       rw [List.getElem?_drop] at hj
       exact ⟨hjn,hil,hj⟩
      ·cases hj
     have key:∀ (i j:Nat) (c:List T) (t:T),(frzE cs off len n)[i]?=some c→c[j]?=some t→t.one=true∧∃ v,w.cell? ⟨r,o+off+i*n+j,none⟩=some v∧VR g w t v∧g.κ r (o+off+i*n+j)=.mut b':=by
      intro i j c t hi hj
      obtain ⟨h1,h2,h3⟩:=hget i j c t hi hj
      obtain ⟨k1,v,k2,k3⟩:=c3 _ _ h3
      have hin:off+i*n+j<cs.length:=(List.getElem?_eq_some_iff.1 h3).1
      refine ⟨k1,v,?_,k3,?_⟩
      ·rw [show o+off+i*n+j=o+(off+i*n+j) by omega];exact k2
      ·exact (c2 (o+off+i*n+j) (by omega) (by omega)).1
     have:=VR.sl (g:=g') (w:=w) (k:=.arg) (es:=frzE cs off len n) (r:=r) (o:=o+off) (cap:=cap) (n:=n) (fun i j=>(w.cell? ⟨r,o+off+i*n+j,none⟩).getD undef) trivial (by rw [hlen];exact hc)
      (fun c hc'=>by
       obtain ⟨i,hi,rfl⟩:=List.mem_map.1 hc'
       have hi:=List.mem_range.1 hi
       have:i*n+n≤len*n:=by rw [← Nat.succ_mul];exact Nat.mul_le_mul_right n hi
       rw [List.length_take,List.length_drop];omega)
      (fun i j c t hi hj=>by
       obtain ⟨k1,v,k2,_,k4⟩:=key i j c t hi hj
       refine ⟨k1,?_,by rw [k2];rfl⟩
       simp only [g'];rw [if_pos k4])
      (fun i j c t hi hj=>by
       obtain ⟨_,v,k2,k3,_⟩:=key i j c t hi hj
       rw [k2];exact k3.mono le)
     rw [hlen] at this
     exact this
   ·exact hv.mono le
  | _=>exact hv.mono le
 refine ⟨g',le,sr,⟨by simp,fun b' y a _ d=>⟨set_ne a (by rintro rfl;obtain ⟨x,hx⟩:=hφ;rw [hx] at d;cases d),d⟩⟩,fun t v hv=>?_⟩
 cases t with
 | tup vs =>
  cases hv with
  | tup hl h2 =>
   refine .tup (by simpa using hl) fun i t v hi hv'=>?_
   rw [List.getElem?_map,Option.map_eq_some_iff] at hi
   obtain ⟨t',ht',rfl⟩:=hi
   exact one _ _ (h2 i t' v ht' hv')
 | _=>exact one _ _ hv
end
def callable (P:Program) (f:FuncId):Bool :=
 match P.funcs[f]? with
 | some fn=>fn.name != "runtime.NumGoroutine"&&fn.body.isSome
 | none=>false
def compOp1 (P:Program) (mu:Bool):Op→Option Op1
 | .call { callee:=.value (.func f),args,.. }=>if callable P f then (compXs args.toList).map (.call f) else match isOvl P f,compXs args.toList with
  | some n,some [x,y]=>some (.b (.ovl n x y))
  | _,_=>none
 | .call { callee:=.value (.tmp t),args,.. }=>(compXs args.toList).map (.callv (.r t))
 | op=>(compOp P mu op).map .b
def compG (ops:Array Oper):Option (Nat × Bool)→Option Gd
 | none=>some none
 | some (j,b)=>match (ops[j]?).bind (·.dst) with
  | some d=>some (some (d,b))
  | none=>none
def regsX:X→List Nat
 | .r t=>[t]
 | .c _=>[]
def regsXo:Option X→List Nat
 | some x=>regsX x
 | none=>[]
def regsB:Bo→List Nat
 | .mov x | .un _ x | .cvi _ x | .cvs x | .cvb x | .len _ x | .box x | .ld _ _ x | .fad _ x | .fld _ _ _ x | .ext _ x | .nilc x | .cap x | .rng x | .nxt x | .ent x | .clr _ _ x=>regsX x
 | .bin _ x y | .eqr _ _ x y | .beq _ x y | .eqs _ _ x y | .st _ x y | .iad _ x y | .iaa _ _ x y | .ixs x y | .ixa _ _ _ x y | .lkp _ _ _ x y | .del _ x y | .app _ _ _ x y | .mks _ _ _ x y | .mn x y | .mx x y | .cpy _ x y | .ovl _ x y | .apz _ _ _ x y=>regsX x++regsX y
 | .pick x y z | .upm _ x y z=>regsX x++regsX y++regsX z
 | .build _ ps=>ps.flatMap fun p=>regsX p.2.2
 | .bsl _ _ ps | .bsm _ _ ps=>ps.flatMap fun p=>regsX p.2
 | .sls x lo hi=>regsX x++regsXo lo++regsXo hi
 | .sll _ x lo hi mx=>regsX x++regsXo lo++regsXo hi++regsXo mx
 | .mkf _ l=>l.flatMap regsX
 | .alloc _ | .mkm=>[]
def regsO:Op1→List Nat
 | .b b=>regsB b
 | .call _ as=>as.flatMap regsX
 | .callv f as=>regsX f++as.flatMap regsX
def regsG:Gd→List Nat
 | some (t,_)=>[t]
 | none=>[]
def opTmps (l:List Operand):List Nat:=l.filterMap fun | .tmp t=>some t | _=>none
def tmpsOf (o:Oper) (op:Op1) (g:Gd):List Nat:=opTmps o.op.operands.toList++(regsG g++regsO op)
def compO (P:Program) (n:Nat) (ops:Array Oper) (mu:Bool) (o:Oper) (stab:List Rd):Option O :=
 match compOp1 P mu o.op,compG ops o.guard with
 | some op,some g=>if (tmpsOf o op g).all (·<n)&&(o.dst.all (·<n)) then some ⟨o.dst,op,g,stab⟩ else none
 | _,_=>none
def compSeq (P:Program) (n:Nat) (ops:Array Oper) (mu:Nat→Bool):List Nat→Option (List O)
 | []=>some []
 | i :: is=>match ops[i]? with
  | some o=>match compO P n ops (mu i) o [],compSeq P n ops mu is with
   | some o,some l=>some (o :: l)
   | _,_=>none
  | none=>none
def bindsE (o:Oper):List Nat:=(o.after.toList.filter fun e=>Region.binds .any e).map (·.on)
def befBits (acc:List Nat) (o:Oper):Nat:=(bindsE o).foldl (fun s j=>s ||| 2 ^ j ||| acc.getD j 0) 0
def befs:List Oper→List Nat→List Nat
 | [],acc=>acc
 | o :: l,acc=>befs l (acc++[befBits acc o])
inductive Kl where | pure | read | make | eff
 deriving DecidableEq
def klB:Bo→Kl
 | .mov _ | .pick _ _ _ | .bin _ _ _ | .beq _ _ _ | .eqs _ _ _ _ | .un _ _ | .cvi _ _ | .build _ _ | .bsl _ _ _ | .fad _ _ | .fld _ _ _ _ | .iad _ _ _ | .iaa _ _ _ _ | .ixs _ _ | .ixa _ _ _ _ _ | .sls _ _ _ | .sll _ _ _ _ _
 | .mkf _ _ | .ext _ _ | .mn _ _ | .mx _ _ | .nilc _=>.pure
 | .eqr _ c _ _=>if c=.slice then .eff else .pure
 | .ld _ _ _ | .lkp _ _ _ _ _ | .len _ _ | .cvs _=>.read
 | .alloc _ | .mkm=>.make
 | _=>.eff
def klO (o:O):Kl:=match o.op with
 | .b b=>match o.d with | some _=>klB b | none=>.eff
 | _=>.eff
structure It where
 i:Nat
 o:O
 early:Bool
 ts:List Nat
def stabOf (b:Nat):List It→List Rd
 | []=>[]
 | y :: l=>match y.early,y.o.d,y.o.op with
  | true,some d,.b op=>if klB op=.read∧b.testBit y.i=false then ⟨d,op,y.o.g⟩ :: stabOf b l else stabOf b l
  | _,_,_=>stabOf b l
def isMk:Op→Bool
 | .alloc _ | .makeMap _ none=>true
 | _=>false
def okItem (b:Nat) (before:List It) (x:It) (oper:Oper):Bool :=
 ((bindsE oper).all fun j=>decide (j<x.i)&&before.any (·.i==j)) &&
 (before.all fun y=>y.early||b.testBit y.i) &&
 (before.all fun y=>y.i != x.i) &&
 (match x.o.d with
  | some d=>(before.all fun y=>y.o.d != some d&&(!y.ts.contains d||(!x.early&&b.testBit y.i)))&&!x.ts.contains d
  | none=>true) &&
 (before.all fun y=>match y.o.d with
  | some d=>!x.ts.contains d||b.testBit y.i
  | none=>true) &&
 (!x.early||(klO x.o != .eff&&(klO x.o != .make||isMk oper.op)))
def compIt (P:Program) (n:Nat) (ops:Array Oper) (mu:Nat→Bool) (b:Nat) (before:List It) (x:Nat × Bool):Option It :=
 match ops[x.1]? with
 | some o=>match compO P n ops (mu x.1) o (if x.2 then [] else stabOf b before) with
  | some o'=>let y:It:=⟨x.1,o',x.2,tmpsOf o o'.op o'.g⟩
   if okItem b before y o then some y else none
  | none=>none
 | none=>none
def compIts (P:Program) (n:Nat) (ops:Array Oper) (mu:Nat→Bool) (bs:List Nat) (before:List It):List (Nat × Bool)→Option (List It)
 | []=>if (List.range ops.size).all fun i=>before.any (·.i==i) then some [] else none
 | x :: l=>match compIt P n ops mu (bs.getD x.1 0) before x with
  | some y=>(compIts P n ops mu bs (before++[y]) l).map (y :: ·)
  | none=>none
structure An where
 mu:List (Nat × Nat)
 ord:List (Nat × List (Nat × Bool))
def compC (P:Program) (n:Nat) (an:An) (top:Bool):Code→Option C
 | .skip=>some .skip
 | .region id ops false=>(compSeq P n ops (fun i=>an.mu.contains (id,i)) (List.range ops.size)).map .ops
 | .region id ops true=>match an.ord.find? (·.1==id) with
  | some (_,ord)=>(compIts P n ops (fun i=>an.mu.contains (id,i)) (befs ops.toList []) [] ord).map fun its=>.ops (its.map (·.o))
  | none=>none
 | .seq a b=>match compC P n an top a,compC P n an top b with
  | some a,some b=>some (.seq a b)
  | _,_=>none
 | .cond c a b=>match compX c,compC P n an top a,compC P n an top b with
  | some x,some a,some b=>if (match c with | .tmp t=>decide (t<n) | _=>true) then some (.cond x a b) else none
  | _,_,_=>none
 | .block id a=>(compC P n an top a).map (.block id)
 | .loop a=>(compC P n an top a).map .loop
 | .exit id=>some (.exit id)
 | .ret=>some .ret
 | .rangeFunc g ps asg body=>match compX g,compC P n an false asg,compC P n an false body with
  | some x,some a,some b=>if top&&(regsX x).all (·<n)&&ps.toList.all (·<n) then some (.rangeF n x ps.toList a b) else none
  | _,_,_=>none
 | _=>none
def resOf (P:Program):List ResultVar→Option (List Rs)
 | []=>some []
 | .tmp t :: l=>(resOf P l).map (.t t :: ·)
 | .cell a t :: l=>match P.underlying t,P.info? t with
  | some d,some i=>(resOf P l).map (.cl a (if isAggD d then i.size else 1) (isAggD d) :: ·)
  | _,_=>none
def rsLt (n:Nat):Rs→Bool
 | .t r | .cl r _ _=>r<n
def compFn (P:Program) (an:An) (f:FuncId):Option Fn :=
 match P.funcs[f]? with
 | some fn=>match fn.body,resOf P fn.results.toList with
  | some c,some res=>match compC P fn.ntmps an true c with
   | some c=>if callable P f&&decide (fn.params.size+fn.nfree≤fn.ntmps)&&res.all (rsLt fn.ntmps) then some ⟨fn.ntmps,fn.params.size+fn.nfree,res,c⟩ else none
   | none=>none
  | _,_=>none
 | none=>none
section
variable {R R':Regs} {H:Heap}
theorem ev_congr {x:X} (h:∀ t∈regsX x,R t=R' t):x.ev R=x.ev R':=by
 cases x with
 | r t=>exact h t (by simp [regsX])
 | c v=>rfl
theorem bnd_congr {x:Option X} {d:Nat} (h:∀ t∈regsXo x,R t=R' t):bnd R d x=bnd R' d x:=by
 cases x with
 | none=>rfl
 | some x=>simp only [bnd];rw [ev_congr h]
theorem partsT_congr:∀ (ps:List (Nat × Nat × X)),(∀ t∈ps.flatMap (fun p=>regsX p.2.2),R t=R' t)→partsT R ps=partsT R' ps
 | [],_=>rfl
 | (off,n,x) :: ps,h=>by
  simp only [partsT]
  rw [ev_congr (x:=x) (R':=R') (fun t ht=>h t (by simp [ht])),partsT_congr ps (fun t ht=>h t (by rw [List.flatMap_cons];exact List.mem_append_right _ ht))]
theorem fillE_congr (n:Nat):∀ (ps:List (Nat × X)) (es:List (List T)),(∀ t∈ps.flatMap (fun p=>regsX p.2),R t=R' t)→fillE n es R ps=fillE n es R' ps
 | [],_,_=>rfl
 | (i,x) :: ps,es,h=>by
  simp only [fillE]
  rw [ev_congr (x:=x) (R':=R') (fun t ht=>h t (by simp [ht]))]
  split
  ·split
   ·exact fillE_congr n ps _ (fun t ht=>h t (by rw [List.flatMap_cons];exact List.mem_append_right _ ht))
   ·rfl
  ·rfl
theorem fillM_congr (n:Nat):∀ (ps:List (Nat × X)) (es:List (List T)),(∀ t∈ps.flatMap (fun p=>regsX p.2),R t=R' t)→fillM n es R ps=fillM n es R' ps
 | [],_,_=>rfl
 | (i,x) :: ps,es,h=>by
  simp only [fillM]
  rw [ev_congr (x:=x) (R':=R') (fun t ht=>h t (by simp [ht]))]
  split
  ·split
   ·exact fillM_congr n ps _ (fun t ht=>h t (by rw [List.flatMap_cons];exact List.mem_append_right _ ht))
   ·rfl
  ·rfl
theorem caps_congr:∀ (l:List X),(∀ t∈l.flatMap regsX,R t=R' t)→l.map (X.ev R)=l.map (X.ev R')
 | [],_=>rfl
 | x :: l,h=>by
  simp only [List.map_cons]
  rw [ev_congr (x:=x) (R':=R') (fun t ht=>h t (by simp [ht])),caps_congr l (fun t ht=>h t (by rw [List.flatMap_cons];exact List.mem_append_right _ ht))]
theorem evop_congr {b:Bo} (h:∀ t∈regsB b,R t=R' t):evop R H b=evop R' H b:=by
 cases b <;> simp only [regsB,List.mem_append] at h
 case build z ps=>simp only [evop];rw [partsT_congr ps h]
 case bsl n z ps=>simp only [evop];rw [fillE_congr _ ps _ h]
 case bsm n z ps=>simp only [evop];rw [fillM_congr _ ps _ h]
 case mkf f l=>simp only [evop,capsT];rw [caps_congr l h]
 case alloc=>rfl
 case mkm=>rfl
 case sls x lo hi =>
  have h1:=ev_congr (x:=x) (R:=R) (R':=R') (fun t ht=>h t (.inl (.inl ht)))
  have h2:=fun d=>bnd_congr (x:=lo) (d:=d) (R:=R) (R':=R') (fun t ht=>h t (.inl (.inr ht)))
  have h3:=fun d=>bnd_congr (x:=hi) (d:=d) (R:=R) (R':=R') (fun t ht=>h t (.inr ht))
  simp only [evop,h1,h2,h3]
 case sll n x lo hi mx =>
  have hm:∀ m,mx=some m→m.ev R=m.ev R':=fun m e=>ev_congr (fun t ht=>h t (.inr (by subst e;exact ht)))
  have h1:=ev_congr (x:=x) (R:=R) (R':=R') (fun t ht=>h t (.inl (.inl (.inl ht))))
  have h2:=fun d=>bnd_congr (x:=lo) (d:=d) (R:=R) (R':=R') (fun t ht=>h t (.inl (.inl (.inr ht))))
  have h3:=fun d=>bnd_congr (x:=hi) (d:=d) (R:=R) (R':=R') (fun t ht=>h t (.inl (.inr ht)))
  simp only [evop,h1,h2,h3]
  cases mx with
  | none =>
   cases x.ev R' with
   | sl k es=>dsimp only;cases bnd R' 0 lo with
    | none=>rfl
    | some l=>cases bnd R' es.length hi <;> rfl
   | msl b off len n'=>rfl
   | _=>rfl
  | some m =>
   cases x.ev R' with
   | sl k es=>dsimp only;cases bnd R' 0 lo with
    | none=>rfl
    | some l=>cases bnd R' es.length hi with
     | none=>rfl
     | some h=>dsimp only;rw [hm m rfl]
   | msl b off len n'=>rfl
   | _=>rfl
 all_goals first
  | (simp only [evop,ev_congr h];done)
  | (rename_i x;simp only [evop];rw [ev_congr (x:=x) (R':=R') h])
  | (rename_i x y;simp only [evop];rw [ev_congr (x:=x) (R':=R') (fun t ht=>h t (.inl ht)),ev_congr (x:=y) (R':=R') (fun t ht=>h t (.inr ht))])
  | (rename_i x y z;simp only [evop];rw [ev_congr (x:=x) (R':=R') (fun t ht=>h t (.inl (.inl ht))),ev_congr (x:=y) (R':=R') (fun t ht=>h t (.inl (.inr ht))),ev_congr (x:=z) (R':=R') (fun t ht=>h t (.inr ht))])
theorem wants_congr {g:Gd} (h:∀ t∈regsG g,R t=R' t):wants R g=wants R' g:=by
 cases g with
 | none=>rfl
 | some p=>obtain ⟨t,b⟩:=p;simp only [wants];rw [h t (by simp [regsG])]
theorem evop_map {b:Bo} (hk:klB b=.pure) (H2:Heap):evop R H2 b=(evop R H b).map fun p=>(p.1,H2):=by
 cases b <;> simp only [klB] at hk <;> (try (cases hk;done)) <;> simp only [evop]
 case sll n x lo hi mx =>
  cases x.ev R with
  | sl k es =>
   dsimp only
   cases bnd R 0 lo with
   | none=>rfl
   | some l=>cases bnd R es.length hi with
    | none=>rfl
    | some h=>cases mx with
     | none=>dsimp only;split <;> rfl
     | some m=>dsimp only;cases natOf (m.ev R) with
      | none=>rfl
      | some m=>dsimp only;split <;> rfl
  | msl b off len n' =>
   dsimp only
   cases bnd R 0 lo with
   | none=>rfl
   | some l=>cases bnd R len hi with
    | none=>rfl
    | some h=>cases mx with
     | none=>dsimp only;split <;> rfl
     | some m=>rfl
  | mslc b off len n' c =>
   dsimp only
   cases bnd R 0 lo with
   | none=>rfl
   | some l=>cases bnd R len hi with
    | none=>rfl
    | some h=>cases mx with
     | none=>dsimp only;split <;> rfl
     | some m=>rfl
  | _=>rfl
 all_goals (try rfl)
 all_goals (try (simp [Option.map_map,Function.comp_def];done))
 all_goals (try (simp [Option.map_map,Option.map_bind,Function.comp_def];done))
 all_goals (repeat' split)
 all_goals (try (simp_all [Option.map_map,Function.comp_def];done))
theorem evop_pure {b:Bo} {v:T} {H':Heap} (hk:klB b=.pure) (h:evop R H b=some (v,H')):H'=H∧∀ H2,evop R H2 b=some (v,H2):=by
 constructor
 ·have h1:=evop_map (R:=R) (H:=H) hk H
  rw [h] at h1;simp at h1;exact h1
 ·intro H2;rw [evop_map (H:=H) hk H2,h];rfl
theorem get_ext {l:Heap} {b:Nat} {x:B} (h:H[b]?=some x):(H++l)[b]?=some x:=by
 rw [List.getElem?_append_left (List.getElem?_eq_some_iff.1 h).1];exact h
theorem ldc_ext {n:Nat} {t:T} {cs:List T} (l:Heap) (h:ldc H n t=some cs):ldc (H++l) n t=some cs:=by
 unfold ldc at *
 cases t <;> simp only [] at h ⊢ <;> try (first | exact h | cases h)
 rename_i b off
 cases hb:H[b]? with
 | none=>simp [hb] at h
 | some x=>rw [hb] at h;rw [get_ext hb];exact h
theorem mapEs_ext {t:T} {es:List (T × T)} (l:Heap) (h:mapEs H t=some es):mapEs (H++l) t=some es:=by
 unfold mapEs at *
 cases t <;> simp only [] at h ⊢ <;> try (first | exact h | cases h)
 rename_i b
 cases hb:H[b]? with
 | none=>simp [hb] at h
 | some x=>rw [hb] at h;rw [get_ext hb];exact h
theorem lenT_ext {t:T} {k:Lc} {n:Nat} (l:Heap) (h:lenT H k t=some n):lenT (H++l) k t=some n:=by
 unfold lenT at *
 cases k <;> cases t <;> simp only [] at h ⊢ <;> try (first | exact h | cases h)
 rename_i b
 cases hb:H[b]? with
 | none=>simp [hb] at h
 | some x=>rw [hb] at h;rw [get_ext hb];exact h
theorem elemsOf_ext {t:T} {n:Nat} {es:List (List T)} (l:Heap) (h:elemsOf H n t=some es):elemsOf (H++l) n t=some es:=by
 unfold elemsOf at *
 cases t <;> simp only [] at h ⊢ <;> try (first | exact h | cases h)
 rename_i b off len n'
 cases hb:H[b]? with
 | none=>simp [hb] at h
 | some x=>rw [hb] at h;rw [get_ext hb];exact h
theorem evop_read {b:Bo} {v:T} {H':Heap} (hk:klB b=.read) (h:evop R H b=some (v,H')):H'=H∧∀ l,evop R (H++l) b=some (v,H++l):=by
 cases b <;> simp only [klB] at hk <;> (try (cases hk;done)) <;> simp only [evop] at h ⊢
 case eqr=>split at hk <;> cases hk
 case cvs x =>
  cases he:elemsOf H 1 (x.ev R) with
  | none=>simp [he] at h
  | some es =>
   rw [he] at h
   refine ⟨?_,fun l=>?_⟩
   ·dsimp only at h;split at h
    ·cases h
    ·simp only [Option.map_eq_some_iff,Prod.mk.injEq] at h;obtain ⟨_,_,_,e⟩:=h;exact e.symm
   ·rw [elemsOf_ext l he]
    dsimp only at h ⊢;split at h
    ·cases h
    ·simp only [Option.map_eq_some_iff,Prod.mk.injEq] at h ⊢
     obtain ⟨a,h1,h2,_⟩:=h
     rename_i hne
     exact ⟨a,h1,h2,trivial⟩
 case len k x =>
  simp only [Option.map_eq_some_iff,Prod.mk.injEq] at h ⊢
  obtain ⟨a,h1,h2,h3⟩:=h
  exact ⟨h3.symm,fun l=>⟨a,lenT_ext l h1,h2,trivial⟩⟩
 case ld n ag x =>
  cases he:ldc H n (x.ev R) with
  | none=>simp [he] at h
  | some cs =>
   simp only [he,Option.map_eq_some_iff,Prod.mk.injEq] at h
   obtain ⟨a,h1,h2,h3⟩:=h
   exact ⟨h3.symm,fun l=>by simp [ldc_ext l he,h1,h2]⟩
 case lkp kt z ok m k =>
  split at h
  ·rename_i hh
   simp only [hh,if_true]
   cases he:mapEs H (m.ev R) with
   | none=>simp [he] at h
   | some es =>
    simp only [he] at h
    simp only [mapEs_ext _ he]
    split at h
    ·split at h
     ·cases h;exact ⟨rfl,fun l=>rfl⟩
     ·cases h
    ·cases h;exact ⟨rfl,fun l=>rfl⟩
    ·cases h
  ·cases h
end
theorem befs_old:∀ (l:List Oper) (acc:List Nat),∃ rest,befs l acc=acc++rest∧rest.length=l.length
 | [],acc=>⟨[],by simp [befs],rfl⟩
 | o :: l,acc=>by
  obtain ⟨r,h,hl⟩:=befs_old l (acc++[befBits acc o])
  exact ⟨befBits acc o :: r,by simp [befs,h],by simp [hl]⟩
theorem befs_get:∀ (l:List Oper) (acc:List Nat) (k:Nat) (o:Oper),l[k]?=some o→(befs l acc)[acc.length+k]?=some (befBits ((befs l acc).take (acc.length+k)) o)
 | [],_,_,_,h=>by simp at h
 | x :: l,acc,0,o,h=>by
  simp at h;subst h
  obtain ⟨r,h,_⟩:=befs_old l (acc++[befBits acc x])
  simp [befs,h]
 | x :: l,acc,k+1,o,h=>by
  have:=befs_get l (acc++[befBits acc x]) k o (by simpa using h)
  simp only [List.length_append,List.length_singleton] at this
  simp only [befs]
  rw [show acc.length+(k+1)=acc.length+1+k by omega]
  exact this
theorem foldl_bit (acc:List Nat) (t:Nat):∀ (l:List Nat) (s:Nat),(l.foldl (fun s j=>s ||| 2 ^ j ||| acc.getD j 0) s).testBit t=true→s.testBit t=true∨∃ j∈l,t=j∨(acc.getD j 0).testBit t=true
 | [],s,h=>.inl h
 | x :: l,s,h=>by
  rcases foldl_bit acc t l _ h with h | ⟨j,hj,h⟩
  ·simp only [Nat.testBit_or,Bool.or_eq_true,Nat.testBit_two_pow,decide_eq_true_eq] at h
   rcases h with (h | h) | h
   ·exact .inl h
   ·exact .inr ⟨x,by simp,.inl h.symm⟩
   ·exact .inr ⟨x,by simp,.inr h⟩
  ·exact .inr ⟨j,by simp [hj],h⟩
theorem befBits_bit {acc:List Nat} {o:Oper} {t:Nat} (h:(befBits acc o).testBit t=true):∃ j∈bindsE o,t=j∨(acc.getD j 0).testBit t=true:=by
 rcases foldl_bit acc t _ _ h with h | h
 ·simp at h
 ·exact h
theorem befs_closed {ops:Array Oper} {D:Nat→Prop} (hD:∀ i o,ops[i]?=some o→D i→∀ j∈bindsE o,j<i∧D j) :
  ∀ (i:Nat) (o:Oper) (t:Nat),ops[i]?=some o→(∀ j∈bindsE o,j<i∧D j)→((befs ops.toList []).getD i 0).testBit t=true→D t:=by
 intro i
 induction i using Nat.strongRecOn with
 | _ i ih =>
  intro o t ho hp hb
  have h1:=befs_get ops.toList [] i o (by simpa using ho)
  simp only [List.length_nil,Nat.zero_add] at h1
  rw [List.getD_eq_getElem?_getD,h1,Option.getD_some] at hb
  obtain ⟨j,hj,h⟩:=befBits_bit hb
  obtain ⟨hlt,hDj⟩:=hp j hj
  rcases h with rfl | h
  ·exact hDj
  ·rw [List.getD_eq_getElem?_getD,List.getElem?_take,if_pos hlt,← List.getD_eq_getElem?_getD] at h
   have hil:i<ops.size:=(Array.getElem?_eq_some_iff.1 ho).1
   have hoj:ops[j]?=some ops[j]:=Array.getElem?_eq_getElem (Nat.lt_trans hlt hil)
   exact ih j hlt ops[j] t hoj (fun k hk=>hD j _ hoj hDj k hk) h
def Fw (r:Option Nat):Fence:={ fn:=fun _=>True,depth:=none,alive:=false,round:=r }
theorem callsIn_any {r r':Option Nat} {n:Nat} {P:Program} {f:FuncId} {args:Array Value} {w:World} {K:Ending→World→Prop} (h:CallsIn (Fw r) n P f args w K):CallsIn (Fw r') n P f args w K:=h
section
variable {P:Program} {w0 w:World} {g:Ctx} {H H':Heap} {R:Regs} {a:Act} {n:Nat} {ops:Array Oper}
theorem compO_inv {mu:Bool} {o:Oper} {st:List Rd} {y:O} (h:compO P n ops mu o st=some y):∃ op gd,compOp1 P mu o.op=some op∧compG ops o.guard=some gd∧y=⟨o.dst,op,gd,st⟩ ∧
  (∀ t∈tmpsOf o op gd,t<n)∧∀ d,o.dst=some d→d<n:=by
 unfold compO at h
 cases h1:compOp1 P mu o.op with
 | none=>simp [h1] at h
 | some op=>cases h2:compG ops o.guard with
  | none=>simp [h1,h2] at h
  | some gd =>
   simp only [h1,h2] at h
   split at h
   ·rename_i hh
    simp only [Bool.and_eq_true,List.all_eq_true,decide_eq_true_eq] at hh
    exact ⟨op,gd,rfl,rfl,(Option.some.inj h).symm,hh.1,fun d hd=>by have:=hh.2;simp [hd] at this;exact this⟩
   ·cases h
def RgOk (g:Ctx) (w:World) (R:Regs) (a:Act) (ts:List Nat):Prop:=∀ t∈ts,VR g w (R t) (a.tmps.getD t undef)
theorem RgOk.sub {ts ts':List Nat} (h:RgOk g w R a ts) (hs:∀ t∈ts',t∈ts):RgOk g w R a ts':=fun t ht=>h t (hs t ht)
theorem rv_of {l:List Operand} (h:RgOk g w R a (opTmps l)):RV g w R a.eval l:=by
 intro x hx y hy
 cases x with
 | tmp t=>simp only [compX,Option.some.injEq] at hy;subst hy;exact h t (by simp only [opTmps,List.mem_filterMap];exact ⟨_,hx,rfl⟩)
 | const v =>
  simp only [compX,Option.map_eq_some_iff] at hy
  obtain ⟨t,h1,rfl⟩:=hy
  exact constT_ok h1
 | «global» x=>simp [compX] at hy
 | func f=>simp only [compX,Option.some.injEq] at hy;subst hy;exact .fn rfl (by simp)
theorem wanted_eq {o:Oper} {gd:Gd} (hg:compG ops o.guard=some gd) (hn:a.tmps.size=n) (hd:∀ t∈regsG gd,t<n) (h:RgOk g w R a (regsG gd)):Region.wanted o (yielded ops a.tmps)=wants R gd:=by
 unfold Region.wanted
 cases ho:o.guard with
 | none=>rw [ho] at hg;simp only [compG,Option.some.injEq] at hg;subst hg;rfl
 | some p =>
  obtain ⟨j,b⟩:=p
  rw [ho] at hg
  simp only [compG] at hg
  cases hd':(ops[j]?).bind (·.dst) with
  | none=>simp [hd'] at hg
  | some d =>
   simp only [hd',Option.some.injEq] at hg;subst hg
   have hv:=h d (by simp [regsG])
   have hlt:d<a.tmps.size:=by rw [hn];exact hd d (by simp [regsG])
   simp only [yielded,hd',Option.bind_some,wants]
   rw [Array.getD_eq_getD_getElem?,Array.getElem?_eq_getElem hlt,Option.getD_some] at hv
   rw [Array.getElem?_eq_getElem hlt]
   generalize R d=t at *
   generalize a.tmps[d]=v at *
   cases hv <;> simp
theorem not_defer {mu:Bool} {o:Op} {op:Op1} (h:compOp1 P mu o=some op):∀ c,o≠.defer c:=by
 rintro c rfl;simp [compOp1,compOp] at h
theorem compOp1_b {mu:Bool} {o:Op} {b:Bo} (h:compOp1 P mu o=some (.b b)):compOp P mu o=some b:=by
 unfold compOp1 at h
 split at h
 ·split at h
  ·simp only [Option.map_eq_some_iff] at h;obtain ⟨_,_,h⟩:=h;cases h
  ·split at h
   ·rename_i h1 h2
    cases h
    simp only [compOp,h1,h2]
   ·cases h
 ·simp only [Option.map_eq_some_iff] at h;obtain ⟨_,_,h⟩:=h;cases h
 ·simp only [Option.map_eq_some_iff] at h;obtain ⟨x,h1,h⟩:=h;cases h;exact h1
theorem step_b {r:Option Nat} {mu:Bool} {o:Oper} {b:Bo} {t:T} (hc:compOp1 P mu o.op=some (.b b)) (h:SR w0 g H w) (hr:RgOk g w R a (opTmps o.op.operands.toList)) (he:evop R H b=some (t,H')) :
  ∃ v w' g',(∀ (K:Act→World→Prop) (Q:Exit→Act→World→Prop),K (a.put o.dst v) w'→o.wpIn (Fw r) 0 P a w K Q)∧Le g w g' w'∧SR w0 g' H' w'∧VR g' w' t v∧Fr g H g' H':=by
 obtain ⟨nx,v,w',g',h1,h2,h3⟩:=sim_op (fun _=>rfl) (compOp1_b hc) h (rv_of hr) he
 refine ⟨v,w',g',fun K Q hk=>⟨fun _ _=>trivial,?_⟩,h3⟩
 rw [Oper.semAt_eq _ _ _ (not_defer hc),h1]
 rcases h2 with rfl | ⟨rfl,rfl⟩
 ·exact hk
 ·exact hk
theorem compOp_nxt {mu:Bool} {o:Op} {x:X} (h:compOp P mu o=some (.nxt x)):∃ it,o=.next it false∧compX it=some x:=by
 cases o
 case next it str =>
  cases str <;> simp only [compOp] at h <;> (try (cases h;done))
  simp only [Option.map_eq_some_iff,Bo.nxt.injEq] at h
  obtain ⟨y,h1,rfl⟩:=h
  exact ⟨it,rfl,h1⟩
 case range ty m =>
  simp only [compOp] at h
  split at h
  ·simp only [Option.map_eq_some_iff] at h;obtain ⟨_,_,h⟩:=h;cases h
  ·cases h
 case makeMap ty r =>
  cases r <;> simp only [compOp] at h <;> cases h
 case makeFunc fn first caps =>
  cases fn <;> simp only [compOp] at h <;> (try (cases h;done))
  split at h
  ·simp only [Option.map_eq_some_iff] at h;obtain ⟨_,_,h⟩:=h;cases h
  ·cases h
 case call c =>
  obtain ⟨callee,args,tys⟩:=c
  cases callee
  case value x =>
   cases x <;> simp only [compOp] at h <;> (try (cases h;done))
   split at h <;> cases h
  case builtin b =>
   simp only [compOp,Option.bind_eq_some_iff] at h
   obtain ⟨l,_,h⟩:=h
   unfold cBuiltin at h
   split at h
   ·have hz:∀ tl l b',cApz P tl l=some b'→b'≠.nxt x:=by
     rintro tl l b' hb rfl
     simp only [cApz] at hb
     (repeat' split at hb) <;> first | (cases hb;done) | (simp at hb;done)
    split at h
    ·rename_i b' hb;exact absurd (Option.some.inj h) (hz _ _ _ hb)
    ·simp only [cAppend] at h
     (repeat' split at h) <;> first | (cases h;done) | (simp at h;done)
   all_goals ((repeat' split at h) <;> first | (cases h;done) | (simp at h;done))
  all_goals (simp only [compOp] at h;cases h)
 all_goals simp only [compOp] at h
 all_goals first | (cases h;done) | (simp only [Option.map_eq_some_iff] at h;obtain ⟨_,_,h⟩:=h;cases h;done) | skip
 all_goals (try simp only [Option.bind_eq_some_iff] at h)
 all_goals (try (obtain ⟨_,_,h⟩:=h))
 all_goals (try simp only [cBin,cConv,cLoad,cField,cIdx,cSlice,cBuild,cBsl,cMks,cMap] at h)
 all_goals first | ((repeat' split at h) <;> first | (cases h;done) | (simp at h;done)) | skip
theorem step_nxt {r:Option Nat} {mu:Bool} {o:Oper} {x:X} {b bi:Nat} {es:List (T × T)} {ix:List Nat} {cur:Option Nat} (hc:compOp1 P mu o.op=some (.b (.nxt x))) (h:SR w0 g H w) (hr:RgOk g w R a (opTmps o.op.operands.toList))
  (hx:x.ev R=.ptr bi 0) (hb:H[b]?=some (.rmap es ix bi cur)) :
  ∃ t H' v w' g',NxtTo H b bi es ix t H'∧(∀ (K:Act→World→Prop) (Q:Exit→Act→World→Prop),K (a.put o.dst v) w'→o.wpIn (Fw r) 0 P a w K Q)∧Le g w g' w'∧SR w0 g' H' w'∧VR g' w' t v∧Fr g H g' H':=by
 have hnd:=not_defer hc
 obtain ⟨it,ho,h1⟩:=compOp_nxt (compOp1_b hc)
 have hv:=rv_of hr it (by rw [ho];simp [Op.operands]) x h1
 rw [hx] at hv
 obtain ⟨t,H',hn,v,w',g',hrun,h3⟩:=sim_nxt (P:=P) (ty:=o.type) h hv hb
 refine ⟨t,H',v,w',g',hn,fun K Q hk=>⟨fun _ _=>trivial,?_⟩,h3⟩
 rw [Oper.semAt_eq _ _ _ hnd]
 have e:(execOp a.eval o).run P w=.ok (.value v) w':=by
  obtain ⟨dst,op,ty,pos,after,guard⟩:=o
  simp only at ho;subst ho
  simp [execOp,hrun]
 rw [e]
 exact hk
theorem run_callFunc {f:FuncId} {args:Array Value} (hf:callable P f=true):(callFunc f args).run P w=.ok (.enter f args) w:=by
 unfold callable at hf
 cases h:P.funcs[f]? with
 | none=>simp [h] at hf
 | some fn =>
  simp only [h,Bool.and_eq_true,bne_iff_ne,ne_eq] at hf
  obtain ⟨c,hb⟩:=Option.isSome_iff_exists.1 hf.2
  simp [callFunc,h,hf.1,hb]
def CallTo (r:Option Nat) (P:Program) (o:Oper) (a:Act) (K:Act→World→Prop):Ending→World→Prop:=fun e w'=>∃ v,e=.returned v∧K (a.put o.dst v) w'
theorem upon_enter {r:Option Nat} {o:Oper} {f:FuncId} {args:Array Value} {K:Act→World→Prop} {Q:Exit→Act→World→Prop} (h:CallsIn (Fw none) 0 P f args w (CallTo r P o a K)) :
  o.uponIn (Fw r) 0 P a K Q (.ok (.enter f args) w):=by
 rw [Oper.uponIn_enter]
 refine ⟨fun h=>by simp [Fw] at h,(callsIn_any h).mono fun e w' he=>?_⟩
 obtain ⟨v,rfl,hk⟩:=he
 exact hk
theorem compOp1_call {mu:Bool} {op:Op} {f:Nat} {as:List X} (h:compOp1 P mu op=some (.call f as)) :
  ∃ args tys,op=.call { callee:=.value (.func f),args:=args,argTypes:=tys }∧callable P f=true∧compXs args.toList=some as:=by
 cases op
 case call c =>
  obtain ⟨callee,args,tys⟩:=c
  cases callee
  case value x =>
   cases x
   case func f' =>
    simp only [compOp1] at h
    split at h
    ·rename_i hc
     simp only [Option.map_eq_some_iff] at h
     obtain ⟨as',h1,h2⟩:=h
     cases h2
     exact ⟨args,tys,rfl,hc,h1⟩
    ·split at h <;> cases h
   all_goals simp [compOp1,compOp] at h
  all_goals (simp only [compOp1,Option.map_eq_some_iff] at h;obtain ⟨_,_,h⟩:=h;cases h)
 all_goals (simp only [compOp1,Option.map_eq_some_iff] at h;obtain ⟨_,_,h⟩:=h;cases h)
theorem compOp1_callv {mu:Bool} {op:Op} {x:X} {as:List X} (h:compOp1 P mu op=some (.callv x as)) :
  ∃ t args tys,x=.r t∧op=.call { callee:=.value (.tmp t),args:=args,argTypes:=tys }∧compXs args.toList=some as:=by
 cases op
 case call c =>
  obtain ⟨callee,args,tys⟩:=c
  cases callee
  case value x =>
   cases x
   case tmp t =>
    simp only [compOp1,Option.map_eq_some_iff] at h
    obtain ⟨as',h1,h2⟩:=h
    cases h2
    exact ⟨t,args,tys,rfl,rfl,h1⟩
   case func f' =>
    simp only [compOp1] at h
    split at h
    ·simp only [Option.map_eq_some_iff] at h
     obtain ⟨as',h1,h2⟩:=h
     cases h2
    ·split at h <;> cases h
   all_goals simp [compOp1,compOp] at h
  all_goals (simp only [compOp1,Option.map_eq_some_iff] at h;obtain ⟨_,_,h⟩:=h;cases h)
 all_goals (simp only [compOp1,Option.map_eq_some_iff] at h;obtain ⟨_,_,h⟩:=h;cases h)
theorem step_call {r:Option Nat} {mu:Bool} {o:Oper} {f:Nat} {as:List X} (hc:compOp1 P mu o.op=some (.call f as)) (hr:RgOk g w R a (opTmps o.op.operands.toList)) :
  ∃ args:List Value,VRs g w (as.map (X.ev R)) args ∧
   ∀ (K:Act→World→Prop) (Q:Exit→Act→World→Prop),callable P f=true→CallsIn (Fw none) 0 P f args.toArray w (CallTo r P o a K)→o.wpIn (Fw r) 0 P a w K Q:=by
 have hnd:=not_defer hc
 obtain ⟨args,tys,ho,hcal,h1⟩:=compOp1_call hc
 have hv:=compXs_ok (ρ:=a.eval) args.toList as h1 (rv_of (hr.sub fun t ht=>by
  simp only [opTmps,List.mem_filterMap] at ht ⊢
  obtain ⟨x,hx,e⟩:=ht
  exact ⟨x,by rw [ho];simp only [Op.operands,Call.operands];simp at hx;simp [hx],e⟩))
 refine ⟨args.toList.map a.eval,hv,fun K Q _ hk=>⟨fun _ _=>trivial,?_⟩⟩
 rw [Oper.semAt_eq _ _ _ hnd]
 have hrun:(execOp a.eval o).run P w=.ok (.enter f (args.toList.map a.eval).toArray) w:=by
  have:=run_callFunc (P:=P) (w:=w) (args:=(args.toList.map a.eval).toArray) hcal
  have e2:(args.toList.map a.eval).toArray=args.map a.eval:=by rw [← Array.toList_map]
  rw [e2] at this ⊢
  simp only [execOp,ho,resolve,Act.eval,Deferred.ofValue,invoke]
  simpa using this
 rw [hrun]
 exact upon_enter hk
theorem step_callv {r:Option Nat} {mu:Bool} {o:Oper} {x:X} {f:Nat} {cs:List T} {as:List X} (hc:compOp1 P mu o.op=some (.callv x as)) (hr:RgOk g w R a (opTmps o.op.operands.toList)) (hx:x.ev R=.fn f cs) :
  ∃ args:List Value,VRs g w (as.map (X.ev R)++cs) args ∧
   ∀ (K:Act→World→Prop) (Q:Exit→Act→World→Prop),callable P f=true→CallsIn (Fw none) 0 P f args.toArray w (CallTo r P o a K)→o.wpIn (Fw r) 0 P a w K Q:=by
 have hnd:=not_defer hc
 obtain ⟨t,args,tys,rfl,ho,h1⟩:=compOp1_callv hc
 have hv:=compXs_ok (ρ:=a.eval) args.toList as h1 (rv_of (hr.sub fun t ht=>by
  simp only [opTmps,List.mem_filterMap] at ht ⊢
  obtain ⟨x,hx,e⟩:=ht
  exact ⟨x,by rw [ho];simp only [Op.operands,Call.operands];simp at hx;simp [hx],e⟩))
 have hf:=hr t (by rw [ho];simp only [opTmps,List.mem_filterMap];exact ⟨.tmp t,by simp [Op.operands,Call.operands],rfl⟩)
 simp only [X.ev] at hx
 rw [hx] at hf
 generalize hv':a.tmps.getD t undef=vf at hf
 cases hf with
 | @fn _ _ vs hl hcs =>
  refine ⟨args.toList.map a.eval++vs.toList,hv.append ⟨by simp [hl],fun i t v ha hb=>hcs i t v ha (by simpa using hb)⟩,fun K Q hcal hk=>⟨fun _ _=>trivial,?_⟩⟩
  rw [Oper.semAt_eq _ _ _ hnd]
  have hrun:(execOp a.eval o).run P w=.ok (.enter f (args.toList.map a.eval++vs.toList).toArray) w:=by
   have:=run_callFunc (P:=P) (w:=w) (args:=(args.toList.map a.eval++vs.toList).toArray) hcal
   have e2:(args.toList.map a.eval++vs.toList).toArray=args.map a.eval++vs:=by rw [← Array.toList_map];simp
   rw [e2] at this ⊢
   have e:a.eval (.tmp t)=.func (.func f) #[] vs:=hv'
   simp only [execOp,ho,resolve,e,Deferred.ofValue,invoke]
   simpa using this
  rw [hrun]
  exact upon_enter hk
end
def blkOf:T→Option Nat
 | .ptr b _ | .map b=>some b
 | _=>none
def mkOf (R:Regs) (y:It):Option Nat:=match y.o.d,y.o.op with
 | some d,.b (.alloc _)=>blkOf (R d)
 | some d,.b .mkm=>blkOf (R d)
 | _,_=>none
def Pend (g:Ctx) (N:Nat) (R:Regs) (H:Heap) (y:It):Prop :=
 (wants R y.o.g=false∧∀ d,y.o.d=some d→R d=undefT) ∨
 (wants R y.o.g=true∧∃ d b,y.o.d=some d∧y.o.op=.b b∧(
  ((klB b=.pure∨klB b=.read)∧evop R H b=some (R d,H)) ∨
  (∃ k z,b=.alloc z∧R d=.ptr k 0∧H[k]?=some (.cells z)∧g.φ k=none∧N≤k) ∨
  (∃ k,b=.mkm∧R d=.map k∧H[k]?=some (.map [])∧g.φ k=none∧N≤k)))
theorem Pend.mono {g g':Ctx} {N:Nat} {R R':Regs} {H H':Heap} {y:It} (h:Pend g N R H y) (hg:∀ t∈regsG y.o.g,R' t=R t) (hr:∀ t∈regsO y.o.op,R' t=R t) (hd:∀ d,y.o.d=some d→R' d=R d)
  (hread:∀ d b,wants R y.o.g=true→y.o.d=some d→y.o.op=.b b→klB b=.read→evop R H b=some (R d,H)→evop R H' b=some (R d,H'))
  (hmk:∀ k x,mkOf R y=some k→H[k]?=some x→(∀ e,x≠.tok e)→g.φ k=none→N≤k→H'[k]?=some x∧g'.φ k=none):Pend g' N R' H' y:=by
 have hw:wants R' y.o.g=wants R y.o.g:=wants_congr hg
 rcases h with ⟨h1,h2⟩ | ⟨h1,d,b,h2,h3,h4⟩
 ·exact .inl ⟨hw ▸ h1,fun d e=>by rw [hd d e];exact h2 d e⟩
 ·refine .inr ⟨hw ▸ h1,d,b,h2,h3,?_⟩
  rw [hd d h2]
  rw [h3] at hr
  rcases h4 with ⟨hk,he⟩ | ⟨k,z,rfl,e1,e2,e3,e4⟩ | ⟨k,rfl,e1,e2,e3,e4⟩
  ·refine .inl ⟨hk,?_⟩
   rw [evop_congr (R:=R') (R':=R) hr]
   rcases hk with hk | hk
   ·exact (evop_pure hk he).2 H'
   ·exact hread d b h1 h2 h3 hk he
  ·have hm:=hmk k _ (by simp [mkOf,h2,h3,e1,blkOf]) e2 (by simp) e3 e4
   exact .inr (.inl ⟨k,z,rfl,e1,hm.1,hm.2,e4⟩)
  ·have hm:=hmk k _ (by simp [mkOf,h2,h3,e1,blkOf]) e2 (by simp) e3 e4
   exact .inr (.inr ⟨k,rfl,e1,hm.1,hm.2,e4⟩)
theorem put_getD (a:Act) (d:Option Nat) (v:Value) (t:Nat) (hd:∀ e,d=some e→e<a.tmps.size):(a.put d v).tmps.getD t undef=if d=some t then v else a.tmps.getD t undef:=by
 cases d with
 | none=>simp [Act.put]
 | some d =>
  have hlt:=hd d rfl
  simp only [Act.put]
  by_cases e:d=t
  ·subst e;simp [Array.getD_eq_getD_getElem?,hlt]
  ·rw [if_neg (by simpa using e),Array.getD_eq_getD_getElem?,Array.getD_eq_getD_getElem?,Array.getElem?_setIfInBounds_ne e]
theorem put_size (a:Act) (d:Option Nat) (v:Value):(a.put d v).tmps.size=a.tmps.size:=by cases d <;> simp [Act.put]
theorem put_df (a:Act) (d:Option Nat) (v:Value):(a.put d v).defers=a.defers:=by cases d <;> simp [Act.put]
theorem updo_ne {R:Regs} {d:Option Nat} {v:T} {t:Nat} (h:d≠some t):updo R d v t=R t:=by
 cases d with
 | none=>rfl
 | some d=>simp only [updo,upd];rw [if_neg];rintro rfl;exact h rfl
theorem updo_eq {R:Regs} {v:T} {t:Nat}:updo R (some t) v t=v:=by simp [updo,upd]
theorem SR.virt {w0 w:World} {g:Ctx} {H:Heap} (h:SR w0 g H w) {x:B} (hx:(∃ cs,x=.cells cs)∨∃ es,x=.map es):SR w0 g (H++[x]) w:=by
 refine ⟨h.size,h.old,h.imm0,h.fresh,fun b y hy=>by have:=h.dom b y hy;simp;omega,fun t e y hy=>by have:=h.domt t e y hy;simp;omega,fun b y hy=>?_,h.frz,h.env⟩
 by_cases hb:b=H.length
 ·subst hb
  rw [get_tail] at hy
  have hn:=h.noφ (b:=H.length) (Nat.le_refl _)
  cases hy
  rcases hx with ⟨cs,rfl⟩ | ⟨es,rfl⟩ <;> intro r o q hq <;> rw [hn] at hq <;> cases hq
 ·exact h.blk b y (get_tail_ne hb hy)
theorem SR.drew {w0 w w':World} {g:Ctx} {H:Heap} (h:SR w0 g H w) (tr:Tr w w' none2 none1) (hz:w'.heap.size=w.heap.size):SR w0 g H w'∧Le g w g w':=by
 have le:Le g w g w':=Le.of_tr tr (fun _ _ h=>h) (fun _ _ h=>h) (fun _ _ _ h=>h) (fun _ _ hs=>hs.elim)
 refine ⟨?_,le⟩
 exact h.step (fun _=>False) tr le (fun _ _ hs=>hs.elim) (fun _ hm=>hm.elim) (fun r o hr=>h.fresh r o (by omega)) h.dom h.domt (fun _ _ _=>rfl) (fun _ _ _ _=>⟨id,id⟩) (fun _ _ _ _=>rfl) (fun b x hx=>.inl ⟨id,hx⟩)
section
variable {P:Program} {w0 w:World} {g:Ctx} {H:Heap} {a:Act}
theorem place_alloc {r:Option Nat} {mu:Bool} {o:Oper} {z:List T} {k:Nat} (hm:isMk o.op=true) (hc:compOp1 P mu o.op=some (.b (.alloc z))) (h:SR w0 g H w) (hk:H[k]?=some (.cells z)) (hn:g.φ k=none) :
  ∃ v w' g',(∀ (K:Act→World→Prop) (Q:Exit→Act→World→Prop),K (a.put o.dst v) w'→o.wpIn (Fw r) 0 P a w K Q)∧Le g w g' w'∧SR w0 g' H w'∧VR g' w' (.ptr k 0) v∧∀ b,g.φ b=none→b≠k→g'.φ b=none:=by
 obtain ⟨dst,op,ty,pos,after,guard⟩:=o
 simp only at hm hc
 have hc:=compOp1_b hc
 unfold isMk at hm
 split at hm
 ·rename_i t _
  simp only [compOp,Option.map_eq_some_iff] at hc
  obtain ⟨z',h1,h2⟩:=hc
  cases h2
  obtain ⟨i,zv,h2,h3,h4⟩:=zeroOf_ok h1
  obtain ⟨hv,ho⟩:=constL_ok (g:=g) (w:=w) _ _ h4
  have tr:Tr w w none2 none1:=Tr.refl w
  obtain ⟨le,sr,fr⟩:=h.mut (c:=zv.cells) (ty:=t) (H':=H) (b:=k) tr rfl hk hn (fun b' x _ hx=>.inl hx) (Nat.le_refl _) (fun b' x hx _ _ _=>hx) (by simpa using hv.getC ho)
  refine ⟨.pointer (some ⟨w.heap.size,0,none⟩),_,_,fun K Q hk=>⟨fun _ _=>trivial,?_⟩,le,sr,.ptr (r:=w.heap.size) (o:=0) (q:=zv.cells.size) (by simp [Ctx.at]),fun b hb hne=>by simp only [Ctx.at,Ctx.row];rw [if_neg hne];exact hb⟩
  rw [Oper.semAt_eq _ _ _ (by rintro c ⟨⟩)]
  have hrun:(execOp a.eval ⟨dst,.alloc t,ty,pos,after,guard⟩).run P w=.ok (.value (.pointer (some ⟨w.heap.size,0,none⟩))) (w.alloc (.cells zv.cells t)):=by
   simp [execOp,Instr.alloc,zeroValue,run_ti h2,h3,newVar,newRow]
  rw [hrun]
  exact hk
 ·simp [compOp] at hc
 ·cases hm
theorem place_mkm {r:Option Nat} {mu:Bool} {o:Oper} {k:Nat} (hm:isMk o.op=true) (hc:compOp1 P mu o.op=some (.b .mkm)) (h:SR w0 g H w) (hk:H[k]?=some (.map [])) (hn:g.φ k=none) :
  ∃ v w' g',(∀ (K:Act→World→Prop) (Q:Exit→Act→World→Prop),K (a.put o.dst v) w'→o.wpIn (Fw r) 0 P a w K Q)∧Le g w g' w'∧SR w0 g' H w'∧VR g' w' (.map k) v∧∀ b,g.φ b=none→b≠k→g'.φ b=none:=by
 obtain ⟨dst,op,ty,pos,after,guard⟩:=o
 simp only at hm hc
 have hc:=compOp1_b hc
 unfold isMk at hm
 split at hm
 ·simp [compOp] at hc
 ·rename_i t _
  obtain ⟨le,sr⟩:=h.newmap (H':=H) (b:=k) hk hn (fun b' x _ hx=>hx) (Nat.le_refl _)
  refine ⟨.map (some w.heap.size),_,_,fun K Q hk=>⟨fun _ _=>trivial,?_⟩,le,sr,.map (r:=w.heap.size) (o:=0) (q:=0) (by simp [Ctx.at]),fun b hb hne=>by simp only [Ctx.at,Ctx.row];rw [if_neg hne];exact hb⟩
  rw [Oper.semAt_eq _ _ _ (by rintro c ⟨⟩)]
  have hrun:(execOp a.eval ⟨dst,.makeMap t none,ty,pos,after,guard⟩).run P w=.ok (.value (.map (some w.heap.size))) (w.alloc (.map #[] 0)):=by
   simp [execOp,Instr.makeMap]
  rw [hrun]
  exact hk
 ·cases hm
end
theorem Fr.ext (g:Ctx) (H l:Heap):Fr g H g (H++l):=⟨by simp,fun b x hx _ hn=>⟨get_ext hx,hn⟩⟩
structure Dr (P:Program) (n:Nat) (ops:Array Oper) (mu:Nat→Bool) (w0:World) (df:List Deferred) (mk:T) (g0:Ctx) (ws:World) (H0:Heap)
  (pre:List It) (L:Array Bool) (g:Ctx) (R:Regs) (H:Heap) (a:Act) (w:World):Prop where
 lsz:L.size=ops.size
 cmp:∀ y∈pre,∃ o,ops[y.i]?=some o∧(∃ st,compO P n ops (mu y.i) o st=some y.o)∧y.ts=tmpsOf o y.o.op y.o.g
 rd:∀ y∈pre,∀ z∈pre,z.early=true→∀ d,z.o.d=some d→d∈y.ts→((befs ops.toList []).getD y.i 0).testBit z.i=true
 dd:∀ y∈pre,∀ z∈pre,∀ d,y.o.d=some d→z.o.d=some d→y.i=z.i
 kl:∀ y∈pre,y.early=true→∀ o,ops[y.i]?=some o→klO y.o=.make→isMk o.op=true
 uniq:∀ y∈pre,∀ z∈pre,y.i=z.i→y=z
 edge:∀ y∈pre,∀ o,ops[y.i]?=some o→∀ j∈bindsE o,j<y.i
 closed:∀ i o,ops[i]?=some o→L.getD i false=true→∀ j∈bindsE o,j<i∧L.getD j false=true
 sub:∀ i,L.getD i false=true→∃ y∈pre,y.i=i
 effl:∀ y∈pre,y.early=false→L.getD y.i false=true
 sr:SR w0 g H w
 le:Le g0 ws g w
 fr:Fr g0 H0 g H
 tsz:a.tmps.size=n
 regs:∀ t,t<n→(∀ y∈pre,L.getD y.i false=false→y.o.d≠some t)→VR g w (R t) (a.tmps.getD t undef)
 pend:∀ y∈pre,L.getD y.i false=false→Pend g H0.length R H y
 inj:∀ y∈pre,∀ z∈pre,L.getD y.i false=false→L.getD z.i false=false→y.i≠z.i→∀ k,mkOf R y=some k→mkOf R z≠some k
 dfe:a.defers=df
 mke:R n=mk
section
variable {P:Program} {n:Nat} {ops:Array Oper} {mu:Nat→Bool} {w0 w ws:World} {df:List Deferred} {mk:T} {g g0:Ctx} {H H0 H':Heap} {pre:List It} {L:Array Bool} {R:Regs} {a:Act} {r:Option Nat}
theorem ready_pre {i:Nat} (h:i∈Region.ready .any ops L):L.getD i false=false∧∃ o,ops[i]?=some o∧∀ j∈bindsE o,L.getD j false=true:=by
 obtain ⟨h1,o,h2,h3⟩:=mem_ready.1 h
 refine ⟨?_,o,h2,fun j hj=>?_⟩
 ·cases hi:L[i]? with
  | none=>simp [Array.getD_eq_getD_getElem?,hi] at h1
  | some b=>simp [Array.getD_eq_getD_getElem?,hi] at h1 ⊢;exact h1
 ·simp only [bindsE,List.mem_map,List.mem_filter] at hj
  obtain ⟨e,⟨he,hb⟩,rfl⟩:=hj
  exact h3 e (by simpa using he) hb
theorem Dr.bit (h:Dr P n ops mu w0 df mk g0 ws H0 pre L g R H a w) {i:Nat} {o:Oper} {t:Nat} (ho:ops[i]?=some o) (hp:∀ j∈bindsE o,j<i∧L.getD j false=true)
  (hb:((befs ops.toList []).getD i 0).testBit t=true):L.getD t false=true :=
 befs_closed (D:=fun i=>L.getD i false=true) h.closed i o t ho hp hb
theorem set_getD {i j:Nat} (hi:i<L.size):(L.setIfInBounds i true).getD j false=if i=j then true else L.getD j false:=by
 by_cases e:i=j
 ·subst e;simp [Array.getD_eq_getD_getElem?,hi]
 ·rw [if_neg e,Array.getD_eq_getD_getElem?,Array.getD_eq_getD_getElem?,Array.getElem?_setIfInBounds_ne e]
theorem regs_of_tmps {o:Oper} {y:It} (h:y.ts=tmpsOf o y.o.op y.o.g):(∀ t∈regsG y.o.g,t∈y.ts)∧(∀ t∈regsO y.o.op,t∈y.ts)∧∀ t∈opTmps o.op.operands.toList,t∈y.ts:=by
 rw [h];unfold tmpsOf
 exact ⟨fun t ht=>by simp [ht],fun t ht=>by simp [ht],fun t ht=>by simp [ht]⟩
theorem Dr.look (h:Dr P n ops mu w0 df mk g0 ws H0 pre L g R H a w) {i:Nat} {o:Oper} {ts:List Nat} (ho:ops[i]?=some o) (hp:∀ j∈bindsE o,j<i∧L.getD j false=true) (hn:∀ t∈ts,t<n)
  (hz:∀ z∈pre,z.early=true→∀ d,z.o.d=some d→d∈ts→((befs ops.toList []).getD i 0).testBit z.i=true):RgOk g w R a ts:=by
 intro t ht
 refine h.regs t (hn t ht) fun z hz' hu hd=>?_
 cases he:z.early with
 | false=>rw [h.effl z hz' he] at hu;cases hu
 | true=>rw [h.bit ho hp (hz z hz' he t hd ht)] at hu;cases hu
theorem Dr.late (h:Dr P n ops mu w0 df mk g0 ws H0 pre L g R H a w) {y:It} (hy:y∈pre) (hr:y.i∈Region.ready .any ops L) :
  ∃ v w' g',(∀ (K:Act→World→Prop) (Q:Exit→Act→World→Prop),K (a.put y.o.d v) w'→wpOpIn (Fw r) 0 P ops Q y.i K a w) ∧
   Dr P n ops mu w0 df mk g0 ws H0 pre (L.setIfInBounds y.i true) g' R H (a.put y.o.d v) w':=by
 obtain ⟨hun,o,ho,hpre⟩:=ready_pre hr
 obtain ⟨o',ho',⟨st,hco⟩,hts⟩:=h.cmp y hy
 rw [ho] at ho';cases ho'
 obtain ⟨op,gd,hop,hgd,hyo,htn,hdn⟩:=compO_inv hco
 have hd:y.o.d=o.dst:=by rw [hyo]
 have hop':y.o.op=op:=by rw [hyo]
 have hg':y.o.g=gd:=by rw [hyo]
 obtain ⟨ht1,ht2,ht3⟩:=regs_of_tmps hts
 have hp:∀ j∈bindsE o,j<y.i∧L.getD j false=true:=fun j hj=>⟨h.edge y hy o ho j hj,hpre j hj⟩
 have hok:RgOk g w R a y.ts:=h.look ho hp (fun t ht=>htn t (by rw [hts,hop',hg'] at ht;exact ht)) (h.rd y hy)
 have hwe:Region.wanted o (yielded ops a.tmps)=wants R y.o.g:=by
  rw [hg'];exact wanted_eq hgd h.tsz (fun t ht=>htn t (by simp [tmpsOf,ht])) (hok.sub (by rw [← hg'];exact ht1))
 have hil:y.i<L.size:=by rw [h.lsz];exact (Array.getElem?_eq_some_iff.1 ho).1
 have hdz:∀ e,y.o.d=some e→e<a.tmps.size:=fun e he=>by rw [h.tsz];exact hdn e (hd ▸ he)
 have keep:∀ v w' g',Le g w g' w'→SR w0 g' H w'→(∀ d,y.o.d=some d→VR g' w' (R d) v)→Fr g0 H0 g' H→(∀ z∈pre,L.getD z.i false=false→z.i≠y.i→Pend g' H0.length R H z) →
   Dr P n ops mu w0 df mk g0 ws H0 pre (L.setIfInBounds y.i true) g' R H (a.put y.o.d v) w':=by
  intro v w' g' le sr hv fr hpend
  refine { lsz:=(by simp [h.lsz]),cmp:=h.cmp,rd:=h.rd,dd:=h.dd,kl:=h.kl,uniq:=h.uniq,edge:=h.edge,closed:=?_,sub:=?_,effl:=?_,sr:=sr,le:=h.le.trans le,fr:=fr,tsz:=(by rw [put_size];exact h.tsz),regs:=?_,pend:=?_,inj:=?_,dfe:=(by rw [put_df];exact h.dfe),mke:=h.mke }
  ·intro i oi hoi hLi j hj
   rw [set_getD hil] at hLi ⊢
   by_cases e:y.i=i
   ·subst e;rw [ho] at hoi;cases hoi
    obtain ⟨h1,h2⟩:=hp j hj
    exact ⟨h1,by split <;> simp [h2]⟩
   ·rw [if_neg e] at hLi
    obtain ⟨h1,h2⟩:=h.closed i oi hoi hLi j hj
    exact ⟨h1,by split <;> simp [h2]⟩
  ·intro i hLi
   rw [set_getD hil] at hLi
   by_cases e:y.i=i
   ·exact ⟨y,hy,e⟩
   ·rw [if_neg e] at hLi;exact h.sub i hLi
  ·intro z hz he
   rw [set_getD hil]
   split
   ·rfl
   ·exact h.effl z hz he
  ·intro t ht hno
   rw [put_getD _ _ _ _ hdz]
   split
   ·rename_i e;exact hv t e
   ·rename_i e
    refine (h.regs t ht fun z hz hu hzd=>?_).mono le
    by_cases ez:y.i=z.i
    ·rw [h.uniq y hy z hz ez] at e;exact e hzd
    ·exact hno z hz (by rw [set_getD hil,if_neg ez];exact hu) hzd
  ·intro z hz hu
   rw [set_getD hil] at hu
   by_cases ez:y.i=z.i
   ·rw [if_pos ez] at hu;cases hu
   ·rw [if_neg ez] at hu;exact hpend z hz hu (Ne.symm ez)
  ·intro z hz z' hz' hu hu'
   rw [set_getD hil] at hu hu'
   by_cases ez:y.i=z.i
   ·rw [if_pos ez] at hu;cases hu
   ·by_cases ez':y.i=z'.i
    ·rw [if_pos ez'] at hu';cases hu'
    ·rw [if_neg ez] at hu;rw [if_neg ez'] at hu';exact h.inj z hz z' hz' hu hu'
 have hpendF:∀ g',Fr g H g' H→∀ z∈pre,L.getD z.i false=false→z.i≠y.i→Pend g' H0.length R H z:=fun g' fr z hz hu _ =>
  (h.pend z hz hu).mono (fun _ _=>rfl) (fun _ _=>rfl) (fun _ _=>rfl) (fun _ _ _ _ _ _ e=>e) (fun k x _ hx hnt hn _=>fr.2 k x hx hnt hn)
 rcases h.pend y hy hun with ⟨hw,hu⟩ | ⟨hw,d,b,hd1,hb1,hcase⟩
 ·refine ⟨undef,w,g,fun K Q hk=>?_,keep undef w g (.refl _ _) h.sr (fun d e=>by rw [hu d e];exact undef_vr) h.fr (hpendF g (.refl _ _))⟩
  unfold wpOpIn
  simp only [ho,hwe,hw]
  rw [hd] at hk
  exact ⟨fun _ _=>trivial,hk⟩
 ·have hopb:compOp1 P (mu y.i) o.op=some (.b b):=by rw [← hb1,hop'];exact hop
  rcases hcase with ⟨hk,he⟩ | ⟨k,z,rfl,e1,e2,e3,e4⟩ | ⟨k,rfl,e1,e2,e3,e4⟩
  ·obtain ⟨v,w',g',hs,le,sr,hv,fr⟩:=step_b (r:=r) hopb h.sr (hok.sub ht3) he
   refine ⟨v,w',g',fun K Q hkk=>?_,keep v w' g' le sr (fun d' e=>by rw [hd1] at e;cases e;exact hv) (h.fr.trans fr) (hpendF g' fr)⟩
   unfold wpOpIn
   simp only [ho,hwe,hw,if_true]
   exact hs K Q (by rw [← hd];exact hkk)
  ·-- a variable finds its place
   have hear:y.early=true:=by cases he:y.early with | true=>rfl | false=>rw [h.effl y hy he] at hun;cases hun
   have hmk:=h.kl y hy hear o ho (by simp [klO,hb1,hd1,klB])
   obtain ⟨v,w',g',hs,le,sr,hv,hφ⟩:=place_alloc (r:=r) (a:=a) hmk hopb h.sr e2 e3
   have hmy:mkOf R y=some k:=by simp [mkOf,hd1,hb1,e1,blkOf]
   refine ⟨v,w',g',fun K Q hkk=>?_,keep v w' g' le sr (fun d' e=>by rw [hd1] at e;cases e;rw [e1];exact hv) ⟨h.fr.1,fun b x hx hnt hb=>?_⟩ fun z' hz' hu' hne=>?_⟩
   ·unfold wpOpIn
    simp only [ho,hwe,hw,if_true]
    exact hs K Q (by rw [← hd];exact hkk)
   ·obtain ⟨f1,f2⟩:=h.fr.2 b x hx hnt hb
    exact ⟨f1,hφ b f2 (by have:=(List.getElem?_eq_some_iff.1 hx).1;omega)⟩
   ·exact (h.pend z' hz' hu').mono (fun _ _=>rfl) (fun _ _=>rfl) (fun _ _=>rfl) (fun _ _ _ _ _ _ e=>e) fun k' x hm' hx _ hn _ =>
     ⟨hx,hφ k' hn (by rintro rfl;exact h.inj y hy z' hz' hun hu' (Ne.symm hne) k' hmy hm')⟩
  ·have hear:y.early=true:=by cases he:y.early with | true=>rfl | false=>rw [h.effl y hy he] at hun;cases hun
   have hmk:=h.kl y hy hear o ho (by simp [klO,hb1,hd1,klB])
   obtain ⟨v,w',g',hs,le,sr,hv,hφ⟩:=place_mkm (r:=r) (a:=a) hmk hopb h.sr e2 e3
   have hmy:mkOf R y=some k:=by simp [mkOf,hd1,hb1,e1,blkOf]
   refine ⟨v,w',g',fun K Q hkk=>?_,keep v w' g' le sr (fun d' e=>by rw [hd1] at e;cases e;rw [e1];exact hv) ⟨h.fr.1,fun b x hx hnt hb=>?_⟩ fun z' hz' hu' hne=>?_⟩
   ·unfold wpOpIn
    simp only [ho,hwe,hw,if_true]
    exact hs K Q (by rw [← hd];exact hkk)
   ·obtain ⟨f1,f2⟩:=h.fr.2 b x hx hnt hb
    exact ⟨f1,hφ b f2 (by have:=(List.getElem?_eq_some_iff.1 hx).1;omega)⟩
   ·exact (h.pend z' hz' hu').mono (fun _ _=>rfl) (fun _ _=>rfl) (fun _ _=>rfl) (fun _ _ _ _ _ _ e=>e) fun k' x hm' hx _ hn _ =>
     ⟨hx,hφ k' hn (by rintro rfl;exact h.inj y hy z' hz' hun hu' (Ne.symm hne) k' hmy hm')⟩
end
structure Hd (P:Program) (n:Nat) (ops:Array Oper) (mu:Nat→Bool) (pre:List It) (x:It) (o:Oper):Prop where
 ho:ops[x.i]?=some o
 co:compO P n ops (mu x.i) o x.o.stab=some x.o
 ts:x.ts=tmpsOf o x.o.op x.o.g
 st:x.early=false→x.o.stab=stabOf ((befs ops.toList []).getD x.i 0) pre
 pred:∀ j∈bindsE o,j<x.i∧∃ z∈pre,z.i=j
 beh:∀ z∈pre,z.early=true∨((befs ops.toList []).getD x.i 0).testBit z.i=true
 ne:∀ z∈pre,z.i≠x.i
 dst:∀ d,x.o.d=some d→(∀ z∈pre,z.o.d≠some d∧(d∈z.ts→x.early=false∧((befs ops.toList []).getD x.i 0).testBit z.i=true))∧d∉x.ts
 rdz:∀ z∈pre,∀ d,z.o.d=some d→d∈x.ts→((befs ops.toList []).getD x.i 0).testBit z.i=true
 kl:x.early=true→klO x.o≠.eff∧(klO x.o=.make→isMk o.op=true)
theorem compIt_hd {P:Program} {n:Nat} {ops:Array Oper} {mu:Nat→Bool} {pre:List It} {y:Nat × Bool} {x:It} (h:compIt P n ops mu ((befs ops.toList []).getD y.1 0) pre y=some x):∃ o,Hd P n ops mu pre x o:=by
 unfold compIt at h
 generalize hbs:(befs ops.toList []).getD y.1 0=bs at h
 cases ho:ops[y.1]? with
 | none=>simp [ho] at h
 | some o =>
  rw [ho] at h;dsimp only at h
  cases hc:compO P n ops (mu y.1) o (if y.2=true then [] else stabOf bs pre) with
  | none=>rw [hc] at h;cases h
  | some o' =>
   rw [hc] at h;dsimp only at h
   split at h
   ·rename_i hk
    cases h
    subst hbs
    have hst:o'.stab=if y.2=true then [] else stabOf ((befs ops.toList []).getD y.1 0) pre:=by
     obtain ⟨op,gd,_,_,e,_⟩:=compO_inv hc;rw [e]
    simp only [okItem,Bool.and_eq_true,List.all_eq_true,decide_eq_true_eq,List.any_eq_true,beq_iff_eq,Bool.or_eq_true,bne_iff_ne,ne_eq,Bool.not_eq_true'] at hk
    obtain ⟨⟨⟨⟨⟨k1,k2⟩,k3⟩,k4⟩,k5⟩,k6⟩:=hk
    refine ⟨o,ho,by rw [hst];exact hc,rfl,fun he=>by simp only at he;rw [hst,he];rfl,k1,k2,k3,fun d hd=>?_,fun z hz d hd ht=>?_,fun he=>?_⟩
    ·simp only at hd
     rw [hd] at k4
     simp only [List.all_eq_true,Bool.and_eq_true,bne_iff_ne,ne_eq,Bool.or_eq_true,Bool.not_eq_true',List.contains_eq_mem,decide_eq_false_iff_not,decide_eq_true_eq] at k4
     exact ⟨fun z hz=>⟨(k4.1 z hz).1,fun ht=>((k4.1 z hz).2.resolve_left (fun hn=>hn ht))⟩,k4.2⟩
    ·have:=k5 z hz
     rw [hd] at this
     simp only [Bool.or_eq_true,Bool.not_eq_true',List.contains_eq_mem,decide_eq_false_iff_not] at this
     exact this.resolve_left (fun hn=>hn ht)
    ·rcases k6 with k6 | k6
     ·have he':y.2=true:=he
      rw [he'] at k6;cases k6
     ·exact ⟨k6.1,fun hm=>k6.2.resolve_left (fun hn=>hn hm)⟩
   ·cases h
theorem compIts_cons {P:Program} {n:Nat} {ops:Array Oper} {mu:Nat→Bool} {pre:List It} {y:Nat × Bool} {ord:List (Nat × Bool)} {its:List It} (h:compIts P n ops mu (befs ops.toList []) pre (y :: ord)=some its) :
  ∃ x l o,its=x :: l∧Hd P n ops mu pre x o∧compIts P n ops mu (befs ops.toList []) (pre++[x]) ord=some l:=by
 simp only [compIts] at h
 split at h
 ·rename_i x hx
  simp only [Option.map_eq_some_iff] at h
  obtain ⟨l,h1,rfl⟩:=h
  obtain ⟨o,ho⟩:=compIt_hd hx
  exact ⟨x,l,o,rfl,ho,h1⟩
 ·cases h
theorem compIts_all {P:Program} {n:Nat} {ops:Array Oper} {mu:Nat→Bool}:∀ (ord:List (Nat × Bool)) (pre its:List It),compIts P n ops mu (befs ops.toList []) pre ord=some its→∀ i,i<ops.size→∃ y∈pre++its,y.i=i
 | [],pre,its,h,i,hi=>by
  simp only [compIts] at h
  split at h
  ·rename_i hk
   cases h
   simp only [List.all_eq_true,List.mem_range,List.any_eq_true,beq_iff_eq] at hk
   simpa using hk i hi
  ·cases h
 | y :: ord,pre,its,h,i,hi=>by
  obtain ⟨x,l,o,rfl,_,h2⟩:=compIts_cons h
  simpa using compIts_all ord (pre++[x]) l h2 i hi
theorem compIts_beh {P:Program} {n:Nat} {ops:Array Oper} {mu:Nat→Bool}:∀ (ord:List (Nat × Bool)) (pre its:List It),compIts P n ops mu (befs ops.toList []) pre ord=some its→∀ y∈its,(∃ o,ops[y.i]?=some o∧(∀ j∈bindsE o,j<y.i))∧∀ z∈pre,z.early=true∨((befs ops.toList []).getD y.i 0).testBit z.i=true
 | [],pre,its,h,y,hy=>by
  simp only [compIts] at h
  split at h
  ·cases h;cases hy
  ·cases h
 | u :: ord,pre,its,h,y,hy=>by
  obtain ⟨x,l,o,rfl,h1,h2⟩:=compIts_cons h
  rcases List.mem_cons.1 hy with rfl | hy
  ·exact ⟨⟨o,h1.ho,fun j hj=>(h1.pred j hj).1⟩,h1.beh⟩
  ·obtain ⟨h3,h4⟩:=compIts_beh ord (pre++[x]) l h2 y hy
   exact ⟨h3,fun z hz=>h4 z (by simp [hz])⟩
theorem stabOf_mem {b:Nat} {y:It} {d:Nat} {op:Bo}:∀ (pre:List It),y∈pre→y.early=true→y.o.d=some d→y.o.op=.b op→klB op=.read→b.testBit y.i=false→⟨d,op,y.o.g⟩∈stabOf b pre
 | [],h,_,_,_,_,_=>by cases h
 | z :: pre,h,h1,h2,h3,h4,h5=>by
  rcases List.mem_cons.1 h with rfl | h
  ·simp [stabOf,h1,h2,h3,h4,h5]
  ·have ih:=stabOf_mem pre h h1 h2 h3 h4 h5
   simp only [stabOf]
   split
   ·split
    ·exact List.mem_cons_of_mem _ ih
    ·exact ih
   ·exact ih
theorem mkOf_congr {R R':Regs} {y:It} (h:∀ d,y.o.d=some d→R' d=R d):mkOf R' y=mkOf R y:=by
 unfold mkOf
 split
 ·rename_i d z h1 h2;simp only [h1,h2,h d h1]
 ·rename_i d h1 h2;simp only [h1,h2,h d h1]
 ·rfl
theorem Pend.lt {g:Ctx} {N:Nat} {R:Regs} {H:Heap} {y:It} (h:Pend g N R H y) {k:Nat} (hm:mkOf R y=some k):k<H.length:=by
 unfold mkOf at hm
 rcases h with ⟨_,h2⟩ | ⟨_,d,b,h2,h3,h4⟩
 ·split at hm
  ·rename_i d z h1 _;rw [h2 d h1] at hm;cases hm
  ·rename_i d h1 _;rw [h2 d h1] at hm;cases hm
  ·cases hm
 ·rw [h2,h3] at hm
  rcases h4 with ⟨hk,he⟩ | ⟨k',z,rfl,e1,e2,e3,e4⟩ | ⟨k',rfl,e1,e2,e3,e4⟩
  ·cases b <;> simp [klB] at hk hm
  ·simp only [e1,blkOf,Option.some.injEq] at hm;subst hm;exact (List.getElem?_eq_some_iff.1 e2).1
  ·simp only [e1,blkOf,Option.some.injEq] at hm;subst hm;exact (List.getElem?_eq_some_iff.1 e2).1
section
variable {P:Program} {n:Nat} {ops:Array Oper} {mu:Nat→Bool} {w0 w w' ws:World} {df:List Deferred} {mk:T} {g g' g0:Ctx} {H H0 H':Heap} {pre:List It} {L:Array Bool} {R:Regs} {a:Act} {r:Option Nat} {x:It} {o:Oper}
theorem Dr.not_listed (h:Dr P n ops mu w0 df mk g0 ws H0 pre L g R H a w) (hd:Hd P n ops mu pre x o):L.getD x.i false=false:=by
 cases e:L.getD x.i false with
 | false=>rfl
 | true=>obtain ⟨y,hy,e⟩:=h.sub x.i e;exact absurd e (hd.ne y hy)
theorem mem_snoc {α:Type} {y x:α} {l:List α} (h:y∈l++[x]):y∈l∨y=x:=by simpa using h
theorem Dr.take (h:Dr P n ops mu w0 df mk g0 ws H0 pre L g R H a w) (hd:Hd P n ops mu pre x o) (he:x.early=true) {t:T} (hp:Pend g H0.length (updo R x.o.d t) H' x)
  (hH:H'=H∨∃ B,H'=H++[B]∧((∃ cs,B=.cells cs)∨∃ es,B=.map es)) (hm:∀ k,mkOf (updo R x.o.d t) x=some k→H.length≤k):Dr P n ops mu w0 df mk g0 ws H0 (pre++[x]) L g (updo R x.o.d t) H' a w:=by
 have hxl:=h.not_listed hd
 have hnd:∀ t:T,x.o.d≠some n:=fun _ e=>by
  obtain ⟨op,gd,_,_,hyo,_,hdn⟩:=compO_inv hd.co
  have hdo:x.o.d=o.dst:=by rw [hyo]
  exact Nat.lt_irrefl n (hdn n (hdo ▸ e))
 have hts:∀ z∈pre,∀ u∈z.ts,updo R x.o.d t u=R u:=fun z hz u hu=>updo_ne fun e=>by
  obtain ⟨h1,_⟩:=((hd.dst u e).1 z hz).2 hu
  rw [he] at h1;cases h1
 have hds:∀ z∈pre,∀ d,z.o.d=some d→updo R x.o.d t d=R d:=fun z hz d hzd=>updo_ne fun e=>((hd.dst d e).1 z hz).1 hzd
 have hext:∃ l,H'=H++l:=by
  rcases hH with rfl | ⟨B,rfl,_⟩
  ·exact ⟨[],by simp⟩
  ·exact ⟨[B],rfl⟩
 obtain ⟨l,hl⟩:=hext
 have hpz:∀ z∈pre,L.getD z.i false=false→Pend g H0.length (updo R x.o.d t) H' z:=fun z hz hu=>by
  obtain ⟨oz,_,_,hzt⟩:=h.cmp z hz
  obtain ⟨t1,t2,_⟩:=regs_of_tmps hzt
  refine (h.pend z hz hu).mono (fun u hu=>hts z hz u (t1 u hu)) (fun u hu=>hts z hz u (t2 u hu)) (hds z hz) (fun d b _ _ _ hk e=>?_) (fun k y _ hy _ hn _=>?_)
  ·subst hl;exact (evop_read hk e).2 l
  ·subst hl;exact ⟨get_ext hy,hn⟩
 refine { lsz:=h.lsz,cmp:=?_,rd:=?_,dd:=?_,kl:=?_,uniq:=?_,edge:=?_,closed:=h.closed,sub:=fun i hi=>?_,effl:=?_,sr:=?_,le:=h.le,fr:=?_,tsz:=h.tsz,regs:=?_,pend:=?_,inj:=?_,dfe:=h.dfe,mke:=(by rw [updo_ne (hnd t)];exact h.mke) }
 ·intro y hy
  replace hy:=mem_snoc hy;rcases hy with hy | rfl
  ·exact h.cmp y hy
  ·exact ⟨o,hd.ho,⟨_,hd.co⟩,hd.ts⟩
 ·intro y hy z hz hez d hzd hyt
  replace hy:=mem_snoc hy;rcases hy with hy | rfl
  ·replace hz:=mem_snoc hz;rcases hz with hz | rfl
   ·exact h.rd y hy z hz hez d hzd hyt
   ·obtain ⟨h1,_⟩:=((hd.dst d hzd).1 y hy).2 hyt
    rw [he] at h1;cases h1
  ·replace hz:=mem_snoc hz;rcases hz with hz | rfl
   ·exact hd.rdz z hz d hzd hyt
   ·exact absurd hyt (hd.dst d hzd).2
 ·intro y hy z hz d hyd hzd
  replace hy:=mem_snoc hy;rcases hy with hy | rfl
  ·replace hz:=mem_snoc hz;rcases hz with hz | rfl
   ·exact h.dd y hy z hz d hyd hzd
   ·exact absurd hyd ((hd.dst d hzd).1 y hy).1
  ·replace hz:=mem_snoc hz;rcases hz with hz | rfl
   ·exact absurd hzd ((hd.dst d hyd).1 z hz).1
   ·rfl
 ·intro y hy hey o' ho'
  replace hy:=mem_snoc hy;rcases hy with hy | rfl
  ·exact h.kl y hy hey o' ho'
  ·rw [hd.ho] at ho';cases ho';exact (hd.kl hey).2
 ·intro y hy z hz e
  replace hy:=mem_snoc hy;rcases hy with hy | rfl
  ·replace hz:=mem_snoc hz;rcases hz with hz | rfl
   ·exact h.uniq y hy z hz e
   ·exact absurd e (hd.ne y hy)
  ·replace hz:=mem_snoc hz;rcases hz with hz | rfl
   ·exact absurd e.symm (hd.ne z hz)
   ·rfl
 ·intro y hy o' ho' j hj
  replace hy:=mem_snoc hy;rcases hy with hy | rfl
  ·exact h.edge y hy o' ho' j hj
  ·rw [hd.ho] at ho';cases ho';exact (hd.pred j hj).1
 ·obtain ⟨y,hy,e⟩:=h.sub i hi
  exact ⟨y,by simp [hy],e⟩
 ·intro y hy hey
  replace hy:=mem_snoc hy;rcases hy with hy | rfl
  ·exact h.effl y hy hey
  ·rw [he] at hey;cases hey
 ·rcases hH with rfl | ⟨B,rfl,hB⟩
  ·exact h.sr
  ·exact h.sr.virt hB
 ·subst hl;exact h.fr.trans (Fr.ext g H l)
 ·intro u hu hno
  rw [updo_ne (hno x (by simp) hxl)]
  exact h.regs u hu fun y hy hyl=>hno y (by simp [hy]) hyl
 ·intro y hy hyl
  replace hy:=mem_snoc hy;rcases hy with hy | rfl
  ·exact hpz y hy hyl
  ·exact hp
 ·intro y hy z hz hyl hzl hne k hk hk'
  replace hy:=mem_snoc hy;rcases hy with hy | rfl
  ·rw [mkOf_congr (hds y hy)] at hk
   replace hz:=mem_snoc hz;rcases hz with hz | rfl
   ·rw [mkOf_congr (hds z hz)] at hk'
    exact h.inj y hy z hz hyl hzl hne k hk hk'
   ·have h1:=(h.pend y hy hyl).lt hk
    have h2:=hm k hk'
    omega
  ·replace hz:=mem_snoc hz;rcases hz with hz | rfl
   ·rw [mkOf_congr (hds z hz)] at hk'
    have h1:=(h.pend z hz hzl).lt hk'
    have h2:=hm k hk
    omega
   ·exact hne rfl
theorem Dr.both (h:Dr P n ops mu w0 df mk g0 ws H0 pre L g R H a w) (hd:Hd P n ops mu pre x o) (he:x.early=false) (hp:∀ j∈bindsE o,L.getD j false=true) {t:T} {v:Value} (le:Le g w g' w') (sr:SR w0 g' H' w') (hv:VR g' w' t v) (fr:Fr g H g' H')
  (hs:∀ y∈pre,L.getD y.i false=false→∀ d b,wants R y.o.g=true→y.o.d=some d→y.o.op=.b b→klB b=.read→evop R H b=some (R d,H)→evop R H' b=some (R d,H')) :
  Dr P n ops mu w0 df mk g0 ws H0 (pre++[x]) (L.setIfInBounds x.i true) g' (updo R x.o.d t) H' (a.put x.o.d v) w':=by
 have hil:x.i<L.size:=by rw [h.lsz];exact (Array.getElem?_eq_some_iff.1 hd.ho).1
 have hpp:∀ j∈bindsE o,j<x.i∧L.getD j false=true:=fun j hj=>⟨(hd.pred j hj).1,hp j hj⟩
 obtain ⟨op,gd,hop,hgd,hyo,htn,hdn⟩:=compO_inv hd.co
 have hdo:x.o.d=o.dst:=by rw [hyo]
 have hdz:∀ e,x.o.d=some e→e<a.tmps.size:=fun e h1=>by rw [h.tsz];exact hdn e (hdo ▸ h1)
 have hts:∀ z∈pre,L.getD z.i false=false→∀ u∈z.ts,updo R x.o.d t u=R u:=fun z hz hu u hut=>updo_ne fun e=>by
  obtain ⟨_,h2⟩:=((hd.dst u e).1 z hz).2 hut
  rw [h.bit hd.ho hpp h2] at hu;cases hu
 have hds:∀ z∈pre,∀ d,z.o.d=some d→updo R x.o.d t d=R d:=fun z hz d hzd=>updo_ne fun e=>((hd.dst d e).1 z hz).1 hzd
 refine { lsz:=(by simp [h.lsz]),cmp:=?_,rd:=?_,dd:=?_,kl:=?_,uniq:=?_,edge:=?_,closed:=?_,sub:=?_,effl:=?_,sr:=sr,le:=h.le.trans le,fr:=h.fr.trans fr,tsz:=(by rw [put_size];exact h.tsz),regs:=?_,pend:=?_,inj:=?_,dfe:=(by rw [put_df];exact h.dfe),mke:=(by rw [updo_ne (fun e=>Nat.lt_irrefl n (hdn n (hdo ▸ e)))];exact h.mke) }
 ·intro y hy
  replace hy:=mem_snoc hy;rcases hy with hy | rfl
  ·exact h.cmp y hy
  ·exact ⟨o,hd.ho,⟨_,hd.co⟩,hd.ts⟩
 ·intro y hy z hz hez d hzd hyt
  replace hz:=mem_snoc hz;rcases hz with hz | rfl
  ·replace hy:=mem_snoc hy;rcases hy with hy | rfl
   ·exact h.rd y hy z hz hez d hzd hyt
   ·exact hd.rdz z hz d hzd hyt
  ·rw [he] at hez;cases hez
 ·intro y hy z hz d hyd hzd
  replace hy:=mem_snoc hy;rcases hy with hy | rfl
  ·replace hz:=mem_snoc hz;rcases hz with hz | rfl
   ·exact h.dd y hy z hz d hyd hzd
   ·exact absurd hyd ((hd.dst d hzd).1 y hy).1
  ·replace hz:=mem_snoc hz;rcases hz with hz | rfl
   ·exact absurd hzd ((hd.dst d hyd).1 z hz).1
   ·rfl
 ·intro y hy hey o' ho'
  replace hy:=mem_snoc hy;rcases hy with hy | rfl
  ·exact h.kl y hy hey o' ho'
  ·rw [he] at hey;cases hey
 ·intro y hy z hz e
  replace hy:=mem_snoc hy;rcases hy with hy | rfl
  ·replace hz:=mem_snoc hz;rcases hz with hz | rfl
   ·exact h.uniq y hy z hz e
   ·exact absurd e (hd.ne y hy)
  ·replace hz:=mem_snoc hz;rcases hz with hz | rfl
   ·exact absurd e.symm (hd.ne z hz)
   ·rfl
 ·intro y hy o' ho' j hj
  replace hy:=mem_snoc hy;rcases hy with hy | rfl
  ·exact h.edge y hy o' ho' j hj
  ·rw [hd.ho] at ho';cases ho';exact (hd.pred j hj).1
 ·intro i oi hoi hLi j hj
  rw [set_getD hil] at hLi ⊢
  by_cases e:x.i=i
  ·subst e
   rw [hd.ho] at hoi;cases hoi
   obtain ⟨h1,h2⟩:=hpp j hj
   exact ⟨h1,by split <;> simp [h2]⟩
  ·rw [if_neg e] at hLi
   obtain ⟨h1,h2⟩:=h.closed i oi hoi hLi j hj
   exact ⟨h1,by split <;> simp [h2]⟩
 ·intro i hLi
  rw [set_getD hil] at hLi
  by_cases e:x.i=i
  ·exact ⟨x,by simp,e⟩
  ·rw [if_neg e] at hLi
   obtain ⟨y,hy,e⟩:=h.sub i hLi
   exact ⟨y,by simp [hy],e⟩
 ·intro y hy hey
  rw [set_getD hil]
  split
  ·rfl
  ·rename_i hne
   replace hy:=mem_snoc hy;rcases hy with hy | rfl
   ·exact h.effl y hy hey
   ·exact absurd rfl hne
 ·intro u hu hno
  rw [put_getD _ _ _ _ hdz]
  split
  ·rename_i e;rw [e,updo_eq];exact hv
  ·rename_i e
   rw [updo_ne e]
   exact (h.regs u hu fun y hy hyl=>hno y (by simp [hy]) (by rw [set_getD hil,if_neg (Ne.symm (hd.ne y hy))];exact hyl)).mono le
 ·intro y hy hyl
  rw [set_getD hil] at hyl
  split at hyl
  ·cases hyl
  ·rename_i hne
   replace hy:=mem_snoc hy;rcases hy with hy | rfl
   ·obtain ⟨oz,_,_,hzt⟩:=h.cmp y hy
    obtain ⟨t1,t2,_⟩:=regs_of_tmps hzt
    exact (h.pend y hy hyl).mono (fun u hu=>hts y hy hyl u (t1 u hu)) (fun u hu=>hts y hy hyl u (t2 u hu)) (hds y hy) (hs y hy hyl) (fun k z _ hz hnt hn _=>fr.2 k z hz hnt hn)
   ·exact absurd rfl hne
 ·intro y hy z hz hyl hzl hne k hk hk'
  rw [set_getD hil] at hyl hzl
  split at hyl
  ·cases hyl
  ·split at hzl
   ·cases hzl
   ·rename_i hn1 hn2
    replace hy:=mem_snoc hy;rcases hy with hy | rfl
    ·replace hz:=mem_snoc hz;rcases hz with hz | rfl
     ·rw [mkOf_congr (hds y hy)] at hk
      rw [mkOf_congr (hds z hz)] at hk'
      exact h.inj y hy z hz hyl hzl hne k hk hk'
     ·exact absurd rfl hn2
    ·exact absurd rfl hn1
theorem Dr.init (sr:SR w0 g H w) (hn:a.tmps.size=n) (hmk:R n=mk) (hr:∀ t,t<n→VR g w (R t) (a.tmps.getD t undef)) (le:Le g0 ws g w) (fr:Fr g0 H0 g H):Dr P n ops mu w0 a.defers mk g0 ws H0 [] (Array.replicate ops.size false) g R H a w:=by
 have hf:∀ i,(Array.replicate ops.size false).getD i false=false:=fun i=>by
  rw [Array.getD_eq_getD_getElem?,Array.getElem?_replicate];split <;> rfl
 refine { lsz:=by simp,cmp:=(by simp),rd:=(by simp),dd:=(by simp),kl:=(by simp),uniq:=(by simp),edge:=(by simp),closed:=fun i o _ h=>?_,sub:=fun i h=>?_,effl:=(by simp),sr:=sr,le:=le,fr:=fr,tsz:=hn,regs:=fun t ht _=>hr t ht,pend:=(by simp),inj:=(by simp),dfe:=rfl,mke:=hmk }
 ·rw [hf] at h;cases h
 ·rw [hf] at h;cases h
end
section
variable {P:Program} {w0 w:World} {g:Ctx} {H H':Heap} {R:Regs} {a:Act} {n:Nat} {ops:Array Oper}
def isEqr:Bo→Bool
 | .eqr _ _ _ _=>true
 | _=>false
theorem ne_eqr {b:Bo} (h:isEqr b=false) {neg:Bool} {c:Cls} {x y:X}:b≠.eqr neg c x y:=by rintro rfl;cases h
theorem cLoad_ne {ty:TypeId} {x:X} {b:Bo} (h:cLoad P ty x=some b):isEqr b=false:=by
 unfold cLoad at h;(repeat' split at h) <;> cases h <;> rfl
theorem cField_ne {ty:TypeId} {x:X} {f:Nat} {ad:Bool} {b:Bo} (h:cField P ty x f ad=some b):isEqr b=false:=by
 unfold cField at h;(repeat' split at h) <;> cases h <;> rfl
theorem cIdx_ne {ty:TypeId} {x i:X} {ad:Bool} {b:Bo} (h:cIdx P ty x i ad=some b):isEqr b=false:=by
 unfold cIdx at h;(repeat' split at h) <;> first | (cases h <;> rfl) | (simp only [Option.map_eq_some_iff] at h;obtain ⟨_,_,h⟩:=h;cases h;rfl)
theorem cSlice_ne {ty:TypeId} {x:X} {lo hi mx:Option X} {b:Bo} (h:cSlice P ty x lo hi mx=some b):isEqr b=false:=by
 unfold cSlice at h;(repeat' split at h) <;> cases h <;> rfl
theorem cConv_ne {src dst:TypeId} {x:X} {b:Bo} (h:cConv P src dst x=some b):isEqr b=false:=by
 unfold cConv at h;(repeat' split at h) <;> cases h <;> rfl
theorem cAppend_ne {mu:Bool} {tys:List TypeId} {as:List X} {b:Bo} (h:cAppend P mu tys as=some b):isEqr b=false:=by
 unfold cAppend at h;(repeat' split at h) <;> cases h <;> rfl
theorem cApz_ne {tys:List TypeId} {as:List X} {b:Bo} (h:cApz P tys as=some b):isEqr b=false:=by
 unfold cApz at h;(repeat' split at h) <;> cases h <;> rfl
theorem cBuiltin_ne {mu:Bool} {bt:Builtin} {tys:List TypeId} {as:List X} {b:Bo} (h:cBuiltin P mu bt tys as=some b):isEqr b=false:=by
 unfold cBuiltin at h
 split at h
 ·split at h
  ·rename_i b' hz;cases h;exact cApz_ne hz
  ·exact cAppend_ne h
 all_goals (repeat' split at h) <;> first | (cases h <;> rfl) | (simp only [Option.map_eq_some_iff] at h;obtain ⟨_,_,h⟩:=h;cases h;rfl)
theorem cBuild_ne {ty:TypeId} {ps:List (Nat × X)} {b:Bo} (h:cBuild P ty ps=some b):isEqr b=false:=by
 unfold cBuild at h;(repeat' split at h) <;> cases h <;> rfl
theorem cBsl_ne {mu:Bool} {ty:TypeId} {n:Nat} {ps:List (Nat × X)} {b:Bo} (h:cBsl P mu ty n ps=some b):isEqr b=false:=by
 cases mu <;> unfold cBsl at h <;> (repeat' split at h) <;> cases h <;> rfl
theorem cMks_ne {mu:Bool} {ty:TypeId} {l c:X} {b:Bo} (h:cMks P mu ty l c=some b):isEqr b=false:=by
 unfold cMks at h;(repeat' split at h) <;> cases h <;> rfl
theorem compOp_eqr {mu:Bool} {op:Op} {neg:Bool} {x y:X} (h:compOp P mu op=some (.eqr neg .slice x y)) :
  ∃ bop ty ox oy yt e,op=.binOp bop ty ox oy yt∧compX ox=some x∧compX oy=some y∧P.underlying ty=some (.slice e)∧bop=(if neg then .neq else .eql):=by
 cases op <;> simp only [compOp,Option.map_eq_some_iff,Option.bind_eq_some_iff] at h
 case binOp bop ty ox oy yt =>
  cases h1:compX ox with
  | none=>simp [h1] at h
  | some x'=>cases h2:compX oy with
   | none=>simp [h1,h2] at h
   | some y' =>
    simp only [h1,h2] at h
    unfold cBin at h
    split at h
    ·cases h
    ·cases h
    ·simp only [Option.map_eq_some_iff] at h;obtain ⟨_,_,h⟩:=h;cases h
    ·split at h
     ·split at h <;> cases h
     ·cases h
    ·rename_i d _ _ _ _ hu
     split at h
     ·rename_i n' c hn hcl
      cases h
      refine ⟨bop,ty,ox,oy,yt,?_⟩
      cases d <;> simp [cls] at hcl
      exact ⟨_,rfl,h1,h2,hu,by cases bop <;> simp [isEq] at hn <;> subst hn <;> rfl⟩
     ·cases h
    ·cases h
 case load=>obtain ⟨_,_,h⟩:=h;exact absurd rfl (ne_eqr (cLoad_ne h))
 case fieldAddr=>obtain ⟨_,_,h⟩:=h;exact absurd rfl (ne_eqr (cField_ne h))
 case field=>obtain ⟨_,_,h⟩:=h;exact absurd rfl (ne_eqr (cField_ne h))
 case indexAddr=>split at h;exact absurd rfl (ne_eqr (cIdx_ne h));cases h
 case index=>split at h;exact absurd rfl (ne_eqr (cIdx_ne h));cases h
 case slice=>split at h;exact absurd rfl (ne_eqr (cSlice_ne h));cases h
 case convert=>obtain ⟨_,_,h⟩:=h;exact absurd rfl (ne_eqr (cConv_ne h))
 case build=>obtain ⟨_,_,h⟩:=h;exact absurd rfl (ne_eqr (cBuild_ne h))
 case buildSlice=>obtain ⟨_,_,h⟩:=h;exact absurd rfl (ne_eqr (cBsl_ne h))
 case makeSlice=>split at h;exact absurd rfl (ne_eqr (cMks_ne h));cases h
 case call c =>
  obtain ⟨callee,args,tys⟩:=c
  cases callee
  case builtin=>simp only [compOp,Option.bind_eq_some_iff] at h;obtain ⟨_,_,h⟩:=h;exact absurd rfl (ne_eqr (cBuiltin_ne h))
  case value cv =>
   cases cv <;> simp only [compOp] at h <;> (try (cases h;done))
   split at h <;> cases h
  all_goals simp [compOp] at h
 case makeMap t r=>cases r <;> simp [compOp] at h
 case next it str=>cases str <;> simp [compOp] at h
 case range ty m=>split at h;(simp only [Option.map_eq_some_iff] at h;obtain ⟨_,_,h⟩:=h;cases h);cases h
 case makeFunc f first caps =>
  cases f <;> simp only [compOp] at h
  case func f =>
   split at h
   ·simp only [Option.map_eq_some_iff] at h;obtain ⟨_,_,h⟩:=h;cases h
   ·cases h
  all_goals cases h
 all_goals first
  | (cases h;done)
  | (obtain ⟨_,_,h⟩:=h;cases h;done)
  | ((repeat' split at h) <;> first | (cases h;done) | (simp only [Option.map_eq_some_iff] at h;obtain ⟨_,_,h⟩:=h;cases h;done))
  | (simp only [Option.map_eq_some_iff] at h;obtain ⟨_,_,h⟩:=h;cases h)
  | skip
theorem run_slnil {ty e:TypeId} {ox oy:Operand} {ad:Option Addr} {l p:Nat} {neg:Bool} (hu:P.underlying ty=some (.slice e)) :
  (do eqGuard (if neg then .neq else .eql) ty ox oy (.slice ad l p) (.slice none 0 0);binOp (if neg then .neq else .eql) ty (.slice ad l p) (.slice none 0 0)).run P w=.ok (.bool (if neg then !ad.isNone else ad.isNone)) w:=by
 have k1:∀ op,(eqGuard op ty ox oy (.slice ad l p) (.slice none 0 0)).run P w=.ok () w:=fun op=>guard_sl
 have k2:(Op.equal ty (.slice ad l p) (.slice none 0 0)).run P w=.ok ad.isNone w:=equal_of fun n=>by
  rw [Op.equalIn];simp only [Sem.run_bind,run_underlying hu,Result.andThen_ok]
  cases ad <;> simp_all
 have k3:∀ neg:Bool,(binOp (if neg then .neq else .eql) ty (.slice ad l p) (.slice none 0 0)).run P w=((Op.equal ty (.slice ad l p) (.slice none 0 0)).run P w).andThen fun b w'=>.ok (.bool (if neg then !b else b)) w':=fun neg=>by cases neg <;> simp [binOp]
 simp only [Sem.run_bind,k1,Result.andThen_ok,k3,k2]
theorem step_nils {r:Option Nat} {mu:Bool} {o:Oper} {neg:Bool} {x y:X} (hc:compOp1 P mu o.op=some (.b (.eqr neg .slice x y))) (hr:RgOk g w R a (opTmps o.op.operands.toList))
  (hx:x.ev R=.sl .arg []) (hy:y.ev R=.sl .nil []):∃ b:Bool,∀ (K:Act→World→Prop) (Q:Exit→Act→World→Prop),K (a.put o.dst (.bool b)) w→o.wpIn (Fw r) 0 P a w K Q:=by
 have hnd:=not_defer hc
 obtain ⟨bop,ty,ox,oy,yt,e,ho,h1,h2,hu,rfl⟩:=compOp_eqr (compOp1_b hc)
 have hrv:=rv_of hr
 have v1:=hrv ox (by rw [ho];simp [Op.operands]) x h1
 have v2:=hrv oy (by rw [ho];simp [Op.operands]) y h2
 rw [hx] at v1
 rw [hy] at v2
 generalize h3:a.eval ox=vx at v1
 generalize h4:a.eval oy=vy at v2
 have e2:vy=.slice none 0 0:=by
  cases v2 with
  | slnil=>rfl
  | sl vals hk=>exact hk.elim
 subst e2
 obtain ⟨ad,l,p,rfl⟩:∃ ad l p,vx=.slice ad l p:=by cases v1 <;> exact ⟨_,_,_,rfl⟩
 refine ⟨if neg then !ad.isNone else ad.isNone,fun K Q hk=>⟨fun _ _=>trivial,?_⟩⟩
 rw [Oper.semAt_eq _ _ _ hnd]
 have hrun:(execOp a.eval o).run P w=.ok (.value (.bool (if neg then !ad.isNone else ad.isNone))) w:=by
  have:=run_slnil (P:=P) (w:=w) (ox:=ox) (oy:=oy) (ad:=ad) (l:=l) (p:=p) (neg:=neg) hu
  simp only [execOp,ho,h3,h4]
  rw [Sem.run_bind,this]
  rfl
 rw [hrun]
 exact hk
end
def RegOk (g:Ctx) (w:World) (n:Nat) (R:Regs) (a:Act):Prop:=a.tmps.size=n∧∀ t,t<n→VR g w (R t) (a.tmps.getD t undef)
def exOf:Exit→Option Ex
 | .normal=>some .normal
 | .exit id=>some (.exit id)
 | .ret=>some .ret
 | _=>none
def Post (w0:World) (n:Nat) (df:List Deferred) (mk:T) (g:Ctx) (w:World) (H:Heap) (Q:Out→Heap→Prop):Exit→Act→World→Prop:=fun e a' w' =>
 ∃ ex R' g' H',exOf e=some ex∧Q (.ex ex R') H'∧Le g w g' w'∧SR w0 g' H' w'∧RegOk g' w' n R' a'∧Fr g H g' H'∧a'.defers=df∧R' n=mk
def CallR (w0:World) (g:Ctx) (w:World) (H:Heap) (Q:T→Heap→Prop):Ending→World→Prop:=fun e w' =>
 ∃ v t g' H',e=.returned v∧Q t H'∧Le g w g' w'∧SR w0 g' H' w'∧VR g' w' t v∧Fr g H g' H'
structure EnvOk (P:Program) (E:Env):Prop where
 mixed:P.follows .mixedOrders=true
 fn:∀ f fn,E.fn f=some fn→∃ an,compFn P an f=some fn
 prim:∀ f as H Q,E.prim f as H Q→∀ w0 g w args,SR w0 g H w→VRs g w as args→callable P f=true∧CallsIn (Fw none) 0 P f args.toArray w (CallR w0 g w H Q)
inductive MkOk (g:Ctx):List T→List Deferred→Prop
 | nil:MkOk g [] []
 | cons {b r o q ts df} (h:g.φ b=some (r,o,q)) (hs:MkOk g ts df):MkOk g (.ptr b 0 :: ts) ({ target:=.collected r,args:=#[] } :: df)
theorem MkOk.mono {g g':Ctx} {w w':World} (le:Le g w g' w') {ts:List T} {df:List Deferred} (h:MkOk g ts df):MkOk g' ts df:=by
 induction h with
 | nil=>exact .nil
 | cons h _ ih=>exact .cons (le.φ _ _ h) ih
def Mk (g:Ctx) (t:T) (df:List Deferred):Prop:=∃ ts,t=.tup ts∧MkOk g ts df
theorem Mk.mono {g g':Ctx} {w w':World} (le:Le g w g' w') {t:T} {df:List Deferred} (h:Mk g t df):Mk g' t df:=let ⟨ts,e,h⟩:=h;⟨ts,e,h.mono le⟩
def PostC (w0:World) (n:Nat) (hr:Bool) (df:List Deferred) (mk:T) (g:Ctx) (w:World) (H:Heap) (Q:Out→Heap→Prop):Exit→Act→World→Prop:=fun e a' w' =>
 ∃ ex R' g' H',exOf e=some ex∧Q (.ex ex R') H'∧Le g w g' w'∧SR w0 g' H' w'∧RegOk g' w' n R' a'∧Fr g H g' H'∧(Mk g mk df→Mk g' (R' n) a'.defers)∧(hr=false→R' n=mk∧a'.defers=df)
def CkAll (P:Program) (g:Ctx):Prop:=∀ n c k,g.ck n c k↔∃ an,compC P n an false k=some c
theorem CkAll.mono {P:Program} {g g':Ctx} {w w':World} (le:Le g w g' w') (h:CkAll P g):CkAll P g':=fun n c k=>by rw [le.ck];exact h n c k
def LoopIn (F:Fence) (n:Nat) (P:Program) (c:Code) (Q:Exit→Act→World→Prop) (a:Act) (w:World):Prop :=
 ∀ (b:Frame) (k:List Item) (cs:List Frame),b.roundOf=F.round→F.fn b.fn→F.room (cs.length+1+n) →
  ∃ e a' w',Q e a' w'∧ArrivesIn (Machine.fenced P F) P (lone (b.atR a (.code c :: .inLoop c :: k)) cs w) b k cs e a' w'
theorem loopIn_turn {F:Fence} {n:Nat} {P:Program} {c:Code} {Q:Exit→Act→World→Prop} {a:Act} {w:World} (h:c.wpIn F n P (Exit.then (LoopIn F n P c Q) Q) a w):LoopIn F n P c Q a w:=by
 intro b k cs hro hb hr
 obtain ⟨e,a₁,w₁,hq,harr⟩:=h b (.inLoop c :: k) cs hro hb hr
 cases e with
 | normal =>
  obtain ⟨e₂,a₂,w₂,hq₂,harr₂⟩:=hq b k cs hro hb hr
  exact ⟨e₂,a₂,w₂,hq₂,.of_steps (StepsIn.trans harr (.one (fenced_calm hb hr rfl) stepR_inLoop)) harr₂⟩
 | exit id=>exact ⟨_,a₁,w₁,hq,.pass (x:=.inLoop c) rfl (fun _ _=>.inl (by simp)) harr⟩
 | goto l=>exact ⟨_,a₁,w₁,hq,.pass (x:=.inLoop c) rfl (fun _ _=>.inl (by simp)) harr⟩
 | ret=>exact ⟨_,a₁,w₁,hq,.pass (x:=.inLoop c) rfl (fun _ _=>.inl (by simp)) harr⟩
 | panic ch=>exact ⟨_,a₁,w₁,hq,.pass (x:=.inLoop c) rfl (fun _ _=>.inl (by simp)) harr⟩
 | outgrown=>exact ⟨_,a₁,w₁,hq,.pass (x:=.inLoop c) rfl (fun _ _=>.inl (by simp)) harr⟩
theorem loopIn_wp {F:Fence} {n:Nat} {P:Program} {c:Code} {Q:Exit→Act→World→Prop} {a:Act} {w:World} (h:LoopIn F n P c Q a w):(Code.loop c).wpIn F n P Q a w :=
 fun b k cs hro hb hr=>let ⟨e,a',w',hq,harr⟩:=h b k cs hro hb hr;⟨e,a',w',hq,.of_steps (.one (fenced_calm hb hr rfl) stepR_loop) harr⟩
section
variable {P:Program} {w0 w ws:World} {g g0:Ctx} {H H0 H':Heap} {R:Regs} {a:Act} {n:Nat} {ops:Array Oper} {r:Option Nat} {mu:Bool} {i:Nat} {o:Oper} {st st':List Rd}
theorem ts_lt {y:O} (hc:compO P n ops mu o st=some y):∀ t∈tmpsOf o y.op y.g,t<n:=by
 obtain ⟨op,gd,_,_,rfl,h,_⟩:=compO_inv hc;exact h
theorem exec_no {d:Option Nat} {op:Op1} {gd:Gd} (ho:ops[i]?=some o) (hc:compO P n ops mu o st=some ⟨d,op,gd,st'⟩) (hn:a.tmps.size=n) (hr:RgOk g w R a (tmpsOf o op gd)) (hw:wants R gd=false)
  {K:Act→World→Prop} {Q:Exit→Act→World→Prop} (hk:K (a.put d undef) w):wpOpIn (Fw r) 0 P ops Q i K a w:=by
 obtain ⟨op',gd',h1,h2,h3,h4,h5⟩:=compO_inv hc
 cases h3
 unfold wpOpIn
 simp only [ho,wanted_eq h2 hn (fun t ht=>h4 t (by simp [tmpsOf,ht])) (hr.sub fun t ht=>by simp [tmpsOf,ht]),hw]
 exact ⟨fun _ _=>trivial,hk⟩
theorem wp_wanted {d:Option Nat} {op:Op1} {gd:Gd} (ho:ops[i]?=some o) (hc:compO P n ops mu o st=some ⟨d,op,gd,st'⟩) (hn:a.tmps.size=n) (hr:RgOk g w R a (tmpsOf o op gd)) (hw:wants R gd=true)
  {K:Act→World→Prop} {Q:Exit→Act→World→Prop} (hk:o.wpIn (Fw r) 0 P a w K Q):wpOpIn (Fw r) 0 P ops Q i K a w:=by
 obtain ⟨op',gd',h1,h2,h3,h4,h5⟩:=compO_inv hc
 cases h3
 unfold wpOpIn
 simp only [ho,wanted_eq h2 hn (fun t ht=>h4 t (by simp [tmpsOf,ht])) (hr.sub fun t ht=>by simp [tmpsOf,ht]),hw,if_true]
 exact hk
theorem op_regs {op:Op1} {gd:Gd} (hr:RgOk g w R a (tmpsOf o op gd)):RgOk g w R a (opTmps o.op.operands.toList):=hr.sub fun t ht=>by simp [tmpsOf,ht]
theorem exec_op {d:Option Nat} {b:Bo} {gd:Gd} {t:T} (ho:ops[i]?=some o) (hc:compO P n ops mu o st=some ⟨d,.b b,gd,st'⟩) (hn:a.tmps.size=n) (hr:RgOk g w R a (tmpsOf o (.b b) gd)) (hw:wants R gd=true)
  (h:SR w0 g H w) (he:evop R H b=some (t,H')) :
  ∃ v w' g',(∀ (K:Act→World→Prop) (Q:Exit→Act→World→Prop),K (a.put d v) w'→wpOpIn (Fw r) 0 P ops Q i K a w)∧Le g w g' w'∧SR w0 g' H' w'∧VR g' w' t v∧Fr g H g' H':=by
 obtain ⟨op',gd',h1,h2,h3,h4,h5⟩:=compO_inv hc
 cases h3
 obtain ⟨v,w',g',hs,rest⟩:=step_b (r:=r) h1 h (op_regs hr) he
 exact ⟨v,w',g',fun K Q hk=>wp_wanted ho hc hn hr hw (hs K Q hk),rest⟩
theorem exec_nxt {d:Option Nat} {x:X} {gd:Gd} {b bi:Nat} {es:List (T × T)} {ix:List Nat} {cur:Option Nat} (ho:ops[i]?=some o) (hc:compO P n ops mu o st=some ⟨d,.b (.nxt x),gd,st'⟩) (hn:a.tmps.size=n) (hr:RgOk g w R a (tmpsOf o (.b (.nxt x)) gd)) (hw:wants R gd=true)
  (h:SR w0 g H w) (hx:x.ev R=.ptr bi 0) (hb:H[b]?=some (.rmap es ix bi cur)) :
  ∃ t H' v w' g',NxtTo H b bi es ix t H'∧(∀ (K:Act→World→Prop) (Q:Exit→Act→World→Prop),K (a.put d v) w'→wpOpIn (Fw r) 0 P ops Q i K a w)∧Le g w g' w'∧SR w0 g' H' w'∧VR g' w' t v∧Fr g H g' H':=by
 obtain ⟨op',gd',h1,h2,h3,h4,h5⟩:=compO_inv hc
 cases h3
 obtain ⟨t,H',v,w',g',hnt,hs,rest⟩:=step_nxt (r:=r) h1 h (op_regs hr) hx hb
 exact ⟨t,H',v,w',g',hnt,fun K Q hk=>wp_wanted ho hc hn hr hw (hs K Q hk),rest⟩
theorem exec_nils {d:Option Nat} {neg:Bool} {x y:X} {gd:Gd} (ho:ops[i]?=some o) (hc:compO P n ops mu o st=some ⟨d,.b (.eqr neg .slice x y),gd,st'⟩) (hn:a.tmps.size=n) (hr:RgOk g w R a (tmpsOf o (.b (.eqr neg .slice x y)) gd)) (hw:wants R gd=true)
  (hx:x.ev R=.sl .arg []) (hy:y.ev R=.sl .nil []):∃ b:Bool,∀ (K:Act→World→Prop) (Q:Exit→Act→World→Prop),K (a.put d (.bool b)) w→wpOpIn (Fw r) 0 P ops Q i K a w:=by
 obtain ⟨op',gd',h1,h2,h3,h4,h5⟩:=compO_inv hc
 cases h3
 obtain ⟨b,hs⟩:=step_nils (r:=r) h1 (op_regs hr) hx hy
 exact ⟨b,fun K Q hk=>wp_wanted ho hc hn hr hw (hs K Q hk)⟩
theorem exec_call {d:Option Nat} {f:Nat} {as:List X} {gd:Gd} {M:T→Heap→Prop} (ho:ops[i]?=some o) (hc:compO P n ops mu o st=some ⟨d,.call f as,gd,st'⟩) (hn:a.tmps.size=n) (hr:RgOk g w R a (tmpsOf o (.call f as) gd)) (hw:wants R gd=true)
  (ih:∀ args,VRs g w (as.map (X.ev R)) args→callable P f=true∧CallsIn (Fw none) 0 P f args.toArray w (CallR w0 g w H M)) {K:Act→World→Prop} {Q:Exit→Act→World→Prop}
  (hk:∀ v w' g' H' t,M t H'→Le g w g' w'→SR w0 g' H' w'→VR g' w' t v→Fr g H g' H'→K (a.put d v) w'):wpOpIn (Fw r) 0 P ops Q i K a w:=by
 obtain ⟨op',gd',h1,h2,h3,h4,h5⟩:=compO_inv hc
 cases h3
 obtain ⟨args,hv,hs⟩:=step_call (r:=r) h1 (op_regs hr)
 obtain ⟨k1,k2⟩:=ih args hv
 exact wp_wanted ho hc hn hr hw (hs K Q k1 (k2.mono fun e w' ⟨v,t,g',H',he,hM,le,sr,hvr,fr⟩=>⟨v,he,hk v w' g' H' t hM le sr hvr fr⟩))
theorem exec_callv {d:Option Nat} {x:X} {f:Nat} {cs:List T} {as:List X} {gd:Gd} {M:T→Heap→Prop} (ho:ops[i]?=some o) (hc:compO P n ops mu o st=some ⟨d,.callv x as,gd,st'⟩) (hn:a.tmps.size=n) (hr:RgOk g w R a (tmpsOf o (.callv x as) gd)) (hw:wants R gd=true)
  (hx:x.ev R=.fn f cs) (ih:∀ args,VRs g w (as.map (X.ev R)++cs) args→callable P f=true∧CallsIn (Fw none) 0 P f args.toArray w (CallR w0 g w H M)) {K:Act→World→Prop} {Q:Exit→Act→World→Prop}
  (hk:∀ v w' g' H' t,M t H'→Le g w g' w'→SR w0 g' H' w'→VR g' w' t v→Fr g H g' H'→K (a.put d v) w'):wpOpIn (Fw r) 0 P ops Q i K a w:=by
 obtain ⟨op',gd',h1,h2,h3,h4,h5⟩:=compO_inv hc
 cases h3
 obtain ⟨args,hv,hs⟩:=step_callv (r:=r) h1 (op_regs hr) hx
 obtain ⟨k1,k2⟩:=ih args hv
 exact wp_wanted ho hc hn hr hw (hs K Q k1 (k2.mono fun e w' ⟨v,t,g',H',he,hM,le,sr,hvr,fr⟩=>⟨v,he,hk v w' g' H' t hM le sr hvr fr⟩))
theorem RegOk.put {d:Option Nat} {v:Value} {t:T} {w':World} {g':Ctx} (h:RegOk g w n R a) (hd:∀ e,d=some e→e<n) (le:Le g w g' w') (hv:VR g' w' t v):RegOk g' w' n (updo R d t) (a.put d v):=by
 refine ⟨by rw [put_size];exact h.1,fun u hu=>?_⟩
 rw [put_getD _ _ _ _ (by rw [h.1];exact hd)]
 split
 ·rename_i e;rw [e,updo_eq];exact hv
 ·rename_i e;rw [updo_ne e];exact (h.2 u hu).mono le
theorem RegOk.rg (h:RegOk g w n R a) {ts:List Nat} (ht:∀ t∈ts,t<n):RgOk g w R a ts:=fun t hm=>h.2 t (ht t hm)
end
section
variable {P:Program} {n:Nat} {ops:Array Oper} {mu:Nat→Bool} {w0 ws:World} {df:List Deferred} {mk:T} {g0:Ctx} {H0:Heap} {pre:List It} {r:Option Nat} {x:It} {o:Oper} {Q:Out→Heap→Prop}
def left (L:Array Bool):Nat:=L.toList.count false
theorem left_set {L:Array Bool} {i:Nat} (hi:i<L.size) (hf:L.getD i false=false):left (L.setIfInBounds i true)+1=left L:=by
 unfold left
 rw [Array.toList_setIfInBounds,List.count_set (by simpa using hi)]
 have hg:L.toList[i]'(by simpa using hi)=false:=by
  rw [Array.getD_eq_getD_getElem?,Array.getElem?_eq_getElem hi,Option.getD_some] at hf
  simpa using hf
 have hpos:0<L.toList.count false:=List.count_pos_iff.2 (hg ▸ List.getElem_mem _)
 rw [hg]
 have e1:((false==false:Bool)=true):=rfl
 have e2:¬ ((true==false:Bool)=true):=by decide
 rw [if_pos e1,if_neg e2]
 omega
theorem left_zero {L:Array Bool} (h:left L=0) {i:Nat} (hi:i<L.size):L.getD i false=true:=by
 cases e:L.getD i false with
 | true=>rfl
 | false=>have:=left_set hi e;omega
theorem not_ready {L:Array Bool} (hsz:L.size=ops.size) (hed:∀ i o,ops[i]?=some o→∀ j∈bindsE o,j<i) (h:Region.ready .any ops L=[]):∀ i,i<ops.size→L.getD i false=true:=by
 intro i
 induction i using Nat.strongRecOn with
 | _ i ih =>
  intro hi
  cases e:L.getD i false with
  | true=>rfl
  | false =>
   have:i∈Region.ready .any ops L:=by
    rw [mem_ready]
    refine ⟨?_,ops[i],Array.getElem?_eq_getElem hi,fun ed he hb=>?_⟩
    ·have hi':i<L.size:=by omega
     rw [Array.getD_eq_getD_getElem?,Array.getElem?_eq_getElem hi'] at e ⊢;exact e
    ·have hj:ed.on∈bindsE ops[i]:=by simp only [bindsE,List.mem_map,List.mem_filter];exact ⟨ed,⟨by simpa using he,hb⟩,rfl⟩
     have:=hed i _ (Array.getElem?_eq_getElem hi) _ hj
     exact ih _ this (by omega)
   rw [h] at this;cases this
theorem drawn_end {R:Regs} {H:Heap} (hall:∀ i,i<ops.size→∃ y∈pre,y.i=i) (hQ:Q (.ex .normal R) H):∀ (fuel:Nat) (L:Array Bool) (g:Ctx) (a:Act) (w:World),left L≤fuel→Dr P n ops mu w0 df mk g0 ws H0 pre L g R H a w →
  wpAnyIn (Fw r) 0 P .any ops (Post w0 n df mk g0 ws H0 Q) fuel L a w:=by
 have fin:∀ (L:Array Bool) (g:Ctx) (a:Act) (w:World),Dr P n ops mu w0 df mk g0 ws H0 pre L g R H a w→(∀ i,i<ops.size→L.getD i false=true)→Post w0 n df mk g0 ws H0 Q .normal a w:=by
  intro L g a w h hl
  refine ⟨.normal,R,g,H,rfl,hQ,h.le,h.sr,⟨h.tsz,fun t ht=>h.regs t ht fun y hy hu=>?_⟩,h.fr,h.dfe,h.mke⟩
  obtain ⟨o,ho,_⟩:=h.cmp y hy
  rw [hl y.i (Array.getElem?_eq_some_iff.1 ho).1] at hu;cases hu
 have hed:∀ (L:Array Bool) (g:Ctx) (a:Act) (w:World),Dr P n ops mu w0 df mk g0 ws H0 pre L g R H a w→∀ i o,ops[i]?=some o→∀ j∈bindsE o,j<i:=by
  intro L g a w h i o ho
  obtain ⟨y,hy,rfl⟩:=hall i (Array.getElem?_eq_some_iff.1 ho).1
  exact h.edge y hy o ho
 intro fuel
 induction fuel with
 | zero =>
  intro L g a w hL h
  have hl:∀ i,i<ops.size→L.getD i false=true:=fun i hi=>left_zero (by omega) (by rw [h.lsz];exact hi)
  refine ⟨?_,fin L g a w h hl⟩
  refine List.eq_nil_iff_forall_not_mem.2 fun i hi=>?_
  obtain ⟨h1,o,h2,_⟩:=ready_pre hi
  rw [hl i (Array.getElem?_eq_some_iff.1 h2).1] at h1;cases h1
 | succ fuel ih =>
  intro L g a w hL h
  refine ⟨fun hr=>fin L g a w h (not_ready h.lsz (hed L g a w h) hr),fun i hi=>?_⟩
  obtain ⟨h1,o,h2,_⟩:=ready_pre hi
  have hlt:=(Array.getElem?_eq_some_iff.1 h2).1
  obtain ⟨y,hy,rfl⟩:=hall i hlt
  obtain ⟨v,w',g',hs,hd⟩:=h.late (r:=r) hy hi
  have:=left_set (by rw [h.lsz];exact hlt) h1
  exact hs _ _ (ih _ _ _ _ (by omega) hd)
theorem drawn_wait {R:Regs} {H:Heap} {Tl:Regs→Heap→Prop} {Qx:Exit→Act→World→Prop} {l:List It} (hd:Hd P n ops mu pre x o) (hx:x.early=false) (hall:∀ i,i<ops.size→∃ y∈pre++x :: l,y.i=i)
  (hbeh:∀ y∈l,(∃ o,ops[y.i]?=some o∧(∀ j∈bindsE o,j<y.i))∧∀ z∈pre++[x],z.early=true∨((befs ops.toList []).getD y.i 0).testBit z.i=true)
  (hT:∀ R' H',Tl R' H'→∀ fuel L' g' a' w',left L'≤fuel→Dr P n ops mu w0 df mk g0 ws H0 (pre++[x]) L' g' R' H' a' w'→wpAnyIn (Fw r) 0 P .any ops Qx fuel L' a' w')
  (hX:∀ L g a w,Dr P n ops mu w0 df mk g0 ws H0 pre L g R H a w→(∀ j∈bindsE o,L.getD j false=true)→∀ K:Act→World→Prop,
   (∀ R' H' g' a' w',Tl R' H'→Dr P n ops mu w0 df mk g0 ws H0 (pre++[x]) (L.setIfInBounds x.i true) g' R' H' a' w'→K a' w')→wpOpIn (Fw r) 0 P ops Qx x.i K a w) :
  ∀ (fuel:Nat) (L:Array Bool) (g:Ctx) (a:Act) (w:World),left L≤fuel→Dr P n ops mu w0 df mk g0 ws H0 pre L g R H a w→wpAnyIn (Fw r) 0 P .any ops Qx fuel L a w:=by
 have hxs:x.i<ops.size:=(Array.getElem?_eq_some_iff.1 hd.ho).1
 intro fuel
 induction fuel with
 | zero =>
  intro L g a w hL h
  have h1:=h.not_listed hd
  rw [left_zero (by omega) (by rw [h.lsz];exact hxs)] at h1;cases h1
 | succ fuel ih =>
  intro L g a w hL h
  have hnx:=h.not_listed hd
  refine ⟨fun hr=>?_,fun i hi=>?_⟩
  ·have hl:=not_ready h.lsz (fun i o' ho' j hj=>?_) hr x.i hxs
   ·rw [hl] at hnx;cases hnx
   ·obtain ⟨y,hy,rfl⟩:=hall i (Array.getElem?_eq_some_iff.1 ho').1
    rcases List.mem_append.1 hy with hy | hy
    ·exact h.edge y hy o' ho' j hj
    ·rcases List.mem_cons.1 hy with rfl | hy
     ·rw [hd.ho] at ho';cases ho';exact (hd.pred j hj).1
     ·obtain ⟨⟨o2,h2,h3⟩,_⟩:=hbeh y hy
      rw [h2] at ho';cases ho';exact h3 j hj
  ·obtain ⟨h1,o',h2,h3⟩:=ready_pre hi
   have hlt:=(Array.getElem?_eq_some_iff.1 h2).1
   have hcnt:=left_set (by rw [h.lsz];exact hlt) h1
   obtain ⟨y,hy,rfl⟩:=hall i hlt
   rcases List.mem_append.1 hy with hy | hy
   ·obtain ⟨v,w',g',hs,hdr⟩:=h.late (r:=r) hy hi
    exact hs _ _ (ih _ _ _ _ (by omega) hdr)
   ·rcases List.mem_cons.1 hy with rfl | hy
    ·rw [hd.ho] at h2;cases h2
     exact hX L g a w h h3 _ fun R' H' g' a' w' ht hdr=>hT R' H' ht fuel _ g' a' w' (by omega) hdr
    ·obtain ⟨⟨o2,h4,h5⟩,h6⟩:=hbeh y hy
     rw [h2] at h4;cases h4
     rcases h6 x (by simp) with h7 | h7
     ·rw [hx] at h7;cases h7
     ·have:=h.bit h2 (fun j hj=>⟨h5 j hj,h3 j hj⟩) h7
      rw [hnx] at this;cases this
end
def Mot (P : Program) : J → Heap → (Out → Heap → Prop) → Prop
  | .code c R, H, Q => ∀ (w0 : World) (g : Ctx) (w : World) (a : Act) (n : Nat) (an : An) (top : Bool) (code : Code) (r : Option Nat), compC P n an top code = some c → (top = true → r = none) → CkAll P g → SR w0 g H w → RegOk g w n R a →
      code.wpIn (Fw r) 0 P (PostC w0 n c.hasR a.defers (R n) g w H Q) a w ∧ ∀ body, code = .loop body → LoopIn (Fw r) 0 P body (PostC w0 n c.hasR a.defers (R n) g w H Q) a w
  | .ops l R, H, Q => (∀ (w0 : World) (g0 : Ctx) (ws : World) (H0 : Heap) (g : Ctx) (w : World) (a : Act) (n : Nat) (ops : Array Oper) (mu : Nat → Bool) (is : List Nat) (r : Option Nat), compSeq P n ops mu is = some l → CkAll P g → SR w0 g H w → RegOk g w n R a →
        Le g0 ws g w → Fr g0 H0 g H → wpOpsIn (Fw r) 0 P ops (Post w0 n a.defers (R n) g0 ws H0 Q) is a w) ∧
      (∀ (w0 : World) (n : Nat) (ops : Array Oper) (mu : Nat → Bool) (df : List Deferred) (mk : T) (g0 : Ctx) (ws : World) (H0 : Heap) (pre : List It) (L : Array Bool) (g : Ctx) (a : Act) (w : World) (ord : List (Nat × Bool)) (its : List It) (r : Option Nat) (fuel : Nat),
        CkAll P g → compIts P n ops mu (befs ops.toList []) pre ord = some its → its.map (·.o) = l → Dr P n ops mu w0 df mk g0 ws H0 pre L g R H a w → left L ≤ fuel → wpAnyIn (Fw r) 0 P .any ops (Post w0 n df mk g0 ws H0 Q) fuel L a w)
  | .call f as, H, Q => ∀ (w0 : World) (g : Ctx) (w : World) (args : List Value), CkAll P g → SR w0 g H w → VRs g w as args → callable P f = true ∧ CallsIn (Fw none) 0 P f args.toArray w (CallR w0 g w H fun v H' => Q (.val v) H')
theorem PostC.trans {w0 w w':World} {n:Nat} {hr hr':Bool} {df df':List Deferred} {mk mk':T} {g g':Ctx} {H H':Heap} {Q:Out→Heap→Prop} (le:Le g w g' w') (fr:Fr g H g' H') (hm:Mk g mk df→Mk g' mk' df') (hh:hr=false→hr'=false∧mk'=mk∧df'=df)
  {e:Exit} {a:Act} {u:World} (h:PostC w0 n hr' df' mk' g' w' H' Q e a u):PostC w0 n hr df mk g w H Q e a u:=by
 obtain ⟨ex,R',g2,H2,h1,h2,h3,h4,h5,h6,h7,h8⟩:=h
 refine ⟨ex,R',g2,H2,h1,h2,le.trans h3,h4,h5,fr.trans h6,fun m=>h7 (hm m),fun e=>?_⟩
 obtain ⟨k1,k2,k3⟩:=hh e
 obtain ⟨k4,k5⟩:=h8 k1
 exact ⟨k4.trans k2,k5.trans k3⟩
theorem Post.toC {w0 w:World} {n:Nat} {hr:Bool} {df:List Deferred} {mk:T} {g:Ctx} {H:Heap} {Q:Out→Heap→Prop} {e:Exit} {a:Act} {u:World} (h:Post w0 n df mk g w H Q e a u):PostC w0 n hr df mk g w H Q e a u:=by
 obtain ⟨ex,R',g2,H2,h1,h2,h3,h4,h5,h6,h7,h8⟩:=h
 exact ⟨ex,R',g2,H2,h1,h2,h3,h4,h5,h6,fun m=>by rw [h7,h8];exact m.mono h3,fun _=>⟨h8,h7⟩⟩
section
variable {P:Program} {n:Nat} {an:An} {top:Bool} {code:Code}
theorem inv_skip (h:compC P n an top code=some .skip):code=.skip:=by
 cases code <;> (try simp only [compC] at h)
 case region id ops draw=>cases draw <;> simp only [compC] at h <;> (repeat' split at h) <;> simp at h
 all_goals first | rfl | (cases h;done) | ((repeat' split at h) <;> simp at h;done) | (simp at h;done)
theorem inv_exit {id:Nat} (h:compC P n an top code=some (.exit id)):code=.exit id:=by
 cases code <;> (try simp only [compC] at h)
 case region id ops draw=>cases draw <;> simp only [compC] at h <;> (repeat' split at h) <;> simp at h
 all_goals first | (cases h;rfl) | (cases h;done) | ((repeat' split at h) <;> simp at h;done) | (simp at h;done)
theorem inv_ret (h:compC P n an top code=some .ret):code=.ret:=by
 cases code <;> (try simp only [compC] at h)
 case region id ops draw=>cases draw <;> simp only [compC] at h <;> (repeat' split at h) <;> simp at h
 all_goals first | rfl | (cases h;done) | ((repeat' split at h) <;> simp at h;done) | (simp at h;done)
theorem inv_seq {x y:C} (h:compC P n an top code=some (.seq x y)):∃ c d,code=.seq c d∧compC P n an top c=some x∧compC P n an top d=some y:=by
 cases code <;> (try simp only [compC] at h)
 case region id ops draw=>cases draw <;> simp only [compC] at h <;> (repeat' split at h) <;> simp at h
 case seq c d =>
  split at h
  ·rename_i h1 h2;cases h;exact ⟨c,d,rfl,h1,h2⟩
  ·cases h
 all_goals first | (cases h;done) | ((repeat' split at h) <;> simp at h;done) | (simp at h;done)
theorem inv_cond {c:X} {x y:C} (h:compC P n an top code=some (.cond c x y)):∃ o d e,code=.cond o d e∧compX o=some c∧compC P n an top d=some x∧compC P n an top e=some y∧∀ t,o=.tmp t→t<n:=by
 cases code <;> (try simp only [compC] at h)
 case region id ops draw=>cases draw <;> simp only [compC] at h <;> (repeat' split at h) <;> simp at h
 case cond o d e =>
  split at h
  ·rename_i h1 h2 h3
   cases o with
   | tmp t =>
    simp only [decide_eq_true_eq] at h
    split at h
    ·rename_i h4;cases h;exact ⟨_,d,e,rfl,h1,h2,h3,fun t' ht=>by cases ht;exact h4⟩
    ·cases h
   | _=>simp at h;obtain ⟨rfl,rfl,rfl⟩:=h;exact ⟨_,d,e,rfl,h1,h2,h3,fun t ht=>by cases ht⟩
  ·cases h
 all_goals first | (cases h;done) | ((repeat' split at h) <;> simp at h;done) | (simp at h;done)
theorem inv_block {id:Nat} {x:C} (h:compC P n an top code=some (.block id x)):∃ c,code=.block id c∧compC P n an top c=some x:=by
 cases code <;> (try simp only [compC] at h)
 case region id ops draw=>cases draw <;> simp only [compC] at h <;> (repeat' split at h) <;> simp at h
 case block id' c =>
  simp only [Option.map_eq_some_iff] at h
  obtain ⟨x',h1,h2⟩:=h
  cases h2;exact ⟨c,rfl,h1⟩
 all_goals first | (cases h;done) | ((repeat' split at h) <;> simp at h;done) | (simp at h;done)
theorem inv_loop {x:C} (h:compC P n an top code=some (.loop x)):∃ c,code=.loop c∧compC P n an top c=some x:=by
 cases code <;> (try simp only [compC] at h)
 case region id ops draw=>cases draw <;> simp only [compC] at h <;> (repeat' split at h) <;> simp at h
 case loop c =>
  simp only [Option.map_eq_some_iff] at h
  obtain ⟨x',h1,h2⟩:=h
  cases h2;exact ⟨c,rfl,h1⟩
 all_goals first | (cases h;done) | ((repeat' split at h) <;> simp at h;done) | (simp at h;done)
theorem inv_range {m:Nat} {x:X} {ps:List Nat} {y z:C} (h:compC P n an top code=some (.rangeF m x ps y z)):∃ g qs c d,code=.rangeFunc g qs c d∧compX g=some x∧compC P n an false c=some y∧compC P n an false d=some z∧top=true∧(∀ t∈regsX x,t<n)∧qs.toList=ps∧(∀ p∈ps,p<n)∧m=n:=by
 cases code <;> (try simp only [compC] at h)
 case region id ops draw=>cases draw <;> simp only [compC] at h <;> (repeat' split at h) <;> simp at h
 case rangeFunc g qs c d =>
  split at h
  ·rename_i h1 h2 h3
   split at h
   ·rename_i h4
    cases h
    simp only [Bool.and_eq_true,List.all_eq_true,decide_eq_true_eq] at h4
    exact ⟨g,qs,c,d,rfl,h1,h2,h3,h4.1.1,h4.1.2,rfl,h4.2,rfl⟩
   ·cases h
  ·cases h
 all_goals first | (cases h;done) | ((repeat' split at h) <;> simp at h;done) | (simp at h;done)
theorem inv_ops {l:List O} (h:compC P n an top code=some (.ops l)):∃ id ops mu,(code=.region id ops false∧compSeq P n ops mu (List.range ops.size)=some l) ∨
  (code=.region id ops true∧∃ ord its,compIts P n ops mu (befs ops.toList []) [] ord=some its∧its.map (·.o)=l):=by
 cases code <;> (try simp only [compC] at h)
 case region id ops draw =>
  cases draw <;> simp only [compC] at h
  ·simp only [Option.map_eq_some_iff] at h
   obtain ⟨l',h1,h2⟩:=h
   cases h2;exact ⟨id,ops,_,.inl ⟨rfl,h1⟩⟩
  ·split at h
   ·rename_i ord _
    simp only [Option.map_eq_some_iff] at h
    obtain ⟨its,h1,h2⟩:=h
    cases h2;exact ⟨id,ops,_,.inr ⟨rfl,ord,its,h1,rfl⟩⟩
   ·cases h
 all_goals first | (cases h;done) | ((repeat' split at h) <;> simp at h;done) | (simp at h;done)
end
theorem compSeq_cons {P:Program} {n:Nat} {ops:Array Oper} {mu:Nat→Bool} {is:List Nat} {o:O} {l:List O} (h:compSeq P n ops mu is=some (o :: l)) :
  ∃ i is' oper,is=i :: is'∧ops[i]?=some oper∧compO P n ops (mu i) oper []=some o∧compSeq P n ops mu is'=some l:=by
 cases is with
 | nil=>simp [compSeq] at h
 | cons i is' =>
  simp only [compSeq] at h
  split at h
  ·rename_i oper ho
   split at h
   ·rename_i h1 h2;cases h;exact ⟨i,is',oper,rfl,ho,h1,h2⟩
   ·cases h
  ·cases h
theorem compSeq_nil {P:Program} {n:Nat} {ops:Array Oper} {mu:Nat→Bool} {is:List Nat} (h:compSeq P n ops mu is=some []):is=[]:=by
 cases is with
 | nil=>rfl
 | cons i is' =>
  simp only [compSeq] at h
  split at h
  ·split at h <;> simp at h
  ·cases h
theorem its_cons {P:Program} {n:Nat} {ops:Array Oper} {mu:Nat→Bool} {pre:List It} {ord:List (Nat × Bool)} {its:List It} {o:O} {l:List O} (h:compIts P n ops mu (befs ops.toList []) pre ord=some its) (hm:its.map (·.o)=o :: l) :
  ∃ x l' ord' oper,its=x :: l'∧x.o=o∧l'.map (·.o)=l∧Hd P n ops mu pre x oper∧compIts P n ops mu (befs ops.toList []) (pre++[x]) ord'=some l':=by
 cases ord with
 | nil =>
  simp only [compIts] at h
  split at h
  ·cases h;simp at hm
  ·cases h
 | cons y ord' =>
  obtain ⟨x,l',oper,rfl,h1,h2⟩:=compIts_cons h
  simp only [List.map_cons,List.cons.injEq] at hm
  exact ⟨x,l',ord',oper,rfl,hm.1,hm.2,h1,h2⟩
section
variable {P:Program} {n:Nat} {ops:Array Oper} {mu:Nat→Bool} {w0 w ws:World} {df:List Deferred} {mk:T} {g g0:Ctx} {H H0 H':Heap} {pre:List It} {L:Array Bool} {R:Regs} {a:Act} {r:Option Nat} {x:It} {o:Oper}
theorem Hd.sub (hd:Hd P n ops mu pre x o) (v:T):(∀ t∈regsG x.o.g,updo R x.o.d v t=R t)∧∀ t∈regsO x.o.op,updo R x.o.d v t=R t:=by
 obtain ⟨t1,t2,_⟩:=regs_of_tmps hd.ts
 exact ⟨fun t ht=>updo_ne fun e=>(hd.dst t e).2 (t1 t ht),fun t ht=>updo_ne fun e=>(hd.dst t e).2 (t2 t ht)⟩
theorem Dr.take_no (h:Dr P n ops mu w0 df mk g0 ws H0 pre L g R H a w) (hd:Hd P n ops mu pre x o) (he:x.early=true) (hw:wants R x.o.g=false):Dr P n ops mu w0 df mk g0 ws H0 (pre++[x]) L g (updo R x.o.d undefT) H a w:=by
 refine h.take hd he (.inl ⟨?_,fun d e=>by rw [e,updo_eq]⟩) (.inl rfl) fun k hk=>?_
 ·rw [wants_congr (R':=R) (hd.sub undefT).1];exact hw
 ·unfold mkOf at hk
  split at hk
  ·rename_i e _;rw [e,updo_eq] at hk;cases hk
  ·rename_i e _;rw [e,updo_eq] at hk;cases hk
  ·cases hk
theorem Dr.take_op {b:Bo} {v:T} (h:Dr P n ops mu w0 df mk g0 ws H0 pre L g R H a w) (hd:Hd P n ops mu pre x o) (he:x.early=true) (hb:x.o.op=.b b) (hw:wants R x.o.g=true) (hv:evop R H b=some (v,H')) :
  Dr P n ops mu w0 df mk g0 ws H0 (pre++[x]) L g (updo R x.o.d v) H' a w:=by
 obtain ⟨k1,k2⟩:=hd.kl he
 cases hdd:x.o.d with
 | none=>exact absurd (by simp [klO,hb,hdd]) k1
 | some d =>
  have hkl:klO x.o=klB b:=by simp [klO,hb,hdd]
  rw [hkl] at k1 k2
  have hw':wants (updo R x.o.d v) x.o.g=true:=by rw [wants_congr (R':=R) (hd.sub v).1];exact hw
  have hev:∀ H2,evop (updo R x.o.d v) H2 b=evop R H2 b:=fun H2=>evop_congr fun t ht=>(hd.sub v).2 t (by rw [hb];exact ht)
  have hdv:updo R x.o.d v d=v:=by rw [hdd,updo_eq]
  rw [← hdd]
  have hq:(klB b=.pure∨klB b=.read)→H'=H→Dr P n ops mu w0 df mk g0 ws H0 (pre++[x]) L g (updo R x.o.d v) H' a w:=by
   rintro hk rfl
   refine h.take hd he (.inr ⟨hw',d,b,hdd,hb,.inl ⟨hk,by rw [hev,hdv];exact hv⟩⟩) (.inl rfl) fun k hm=>?_
   unfold mkOf at hm
   rw [hb] at hm
   split at hm
   ·rename_i h1;cases h1;simp [klB] at hk
   ·rename_i h1;cases h1;simp [klB] at hk
   ·cases hm
  cases hk:klB b with
  | eff=>exact absurd hk k1
  | pure=>exact hq (.inl hk) (evop_pure hk hv).1
  | read=>exact hq (.inr hk) (evop_read hk hv).1
  | make =>
   have hln:H0.length≤H.length:=h.fr.1
   cases b <;> simp only [klB] at hk <;> (try (cases hk;done))
   case eqr=>split at hk <;> cases hk
   case alloc z =>
    simp only [evop,Option.some.injEq,Prod.mk.injEq] at hv
    obtain ⟨rfl,rfl⟩:=hv
    refine h.take hd he (.inr ⟨hw',d,_,hdd,hb,.inr (.inl ⟨H.length,z,rfl,hdv,get_tail _ _,h.sr.noφ (Nat.le_refl _),hln⟩)⟩) (.inr ⟨_,rfl,.inl ⟨_,rfl⟩⟩) fun k hm=>?_
    simp only [mkOf,hdd,hb,updo_eq,blkOf,Option.some.injEq] at hm
    omega
   case mkm =>
    simp only [evop,Option.some.injEq,Prod.mk.injEq] at hv
    obtain ⟨rfl,rfl⟩:=hv
    refine h.take hd he (.inr ⟨hw',d,_,hdd,hb,.inr (.inr ⟨H.length,rfl,hdv,get_tail _ _,h.sr.noφ (Nat.le_refl _),hln⟩)⟩) (.inr ⟨_,rfl,.inr ⟨_,rfl⟩⟩) fun k hm=>?_
    simp only [mkOf,hdd,hb,updo_eq,blkOf,Option.some.injEq] at hm
    omega
theorem Dr.ready_regs (h:Dr P n ops mu w0 df mk g0 ws H0 pre L g R H a w) (hd:Hd P n ops mu pre x o) (hp:∀ j∈bindsE o,L.getD j false=true):RgOk g w R a (tmpsOf o x.o.op x.o.g) :=
 h.look hd.ho (fun j hj=>⟨(hd.pred j hj).1,hp j hj⟩) (ts_lt hd.co) fun z hz _ d hzd ht=>hd.rdz z hz d hzd (by rw [hd.ts];exact ht)
theorem Dr.stays (h:Dr P n ops mu w0 df mk g0 ws H0 pre L g R H a w) (hd:Hd P n ops mu pre x o) (he:x.early=false) (hp:∀ j∈bindsE o,L.getD j false=true) (hs:stable R H' x.o.stab) :
  ∀ y∈pre,L.getD y.i false=false→∀ d b,wants R y.o.g=true→y.o.d=some d→y.o.op=.b b→klB b=.read→evop R H b=some (R d,H)→evop R H' b=some (R d,H'):=by
 intro y hy hu d b hw hyd hyb hk _
 have hey:y.early=true:=by cases e:y.early with | true=>rfl | false=>rw [h.effl y hy e] at hu;cases hu
 have hbit:((befs ops.toList []).getD x.i 0).testBit y.i=false:=by
  cases e:((befs ops.toList []).getD x.i 0).testBit y.i with
  | false=>rfl
  | true=>rw [h.bit hd.ho (fun j hj=>⟨(hd.pred j hj).1,hp j hj⟩) e] at hu;cases hu
 have hm:=stabOf_mem pre hy hey hyd hyb hk hbit
 rw [← hd.st he] at hm
 exact hs _ hm hw
end
theorem setps_ok {g:Ctx} {w:World} {n:Nat}:∀ (ps:List Nat) (vs:List T) (us:List Value) (R:Regs) (tmps:Array Value),VRs g w vs us→vs.length=ps.length→tmps.size=n→(∀ t,t<n→VR g w (R t) (tmps.getD t undef))→(∀ p∈ps,p<n) →
  ((ps.zip us).foldl (fun tmps (t,a)=>tmps.setIfInBounds t a) tmps).size=n∧∀ t,t<n→VR g w (setps R ps vs t) (((ps.zip us).foldl (fun tmps (t,a)=>tmps.setIfInBounds t a) tmps).getD t undef)
 | [],vs,us,R,tmps,hv,hl,hn,hr,_=>by
  cases vs with
  | nil=>exact ⟨by simpa using hn,by simpa [setps] using hr⟩
  | cons _ _=>simp at hl
 | p :: ps,[],us,R,tmps,hv,hl,hn,hr,_=>by simp at hl
 | p :: ps,v :: vs,[],R,tmps,hv,hl,hn,hr,_=>by have:=hv.1;simp at this
 | p :: ps,v :: vs,u :: us,R,tmps,hv,hl,hn,hr,hp=>by
  simp only [List.zip_cons_cons,List.foldl_cons,setps]
  refine setps_ok ps vs us (upd R p v) (tmps.setIfInBounds p u) hv.tail (by simpa using hl) (by simpa using hn) (fun t ht=>?_) (fun q hq=>hp q (by simp [hq]))
  have hpl:p<tmps.size:=by rw [hn];exact hp p (by simp)
  by_cases e:p=t
  ·subst e;simp only [upd,if_true];rw [Array.getD_eq_getD_getElem?];simp [hpl];exact hv.head
  ·simp only [upd];rw [if_neg (Ne.symm e),Array.getD_eq_getD_getElem?,Array.getElem?_setIfInBounds_ne e,← Array.getD_eq_getD_getElem?];exact hr t ht
section
variable {P:Program} {w0 w ws:World} {g g0:Ctx} {H H0 H':Heap} {R:Regs} {a:Act} {n:Nat} {ops:Array Oper} {r:Option Nat} {mu:Bool} {i:Nat} {o:Oper} {st st':List Rd}
theorem pendK_ex {e:Ex} (h:e≠.normal):(∃ id,e=.exit id∧pendK (some e)=some (.exit id))∨(e=.ret∧pendK (some e)=some .ret):=by
 cases e with
 | normal=>exact absurd rfl h
 | exit id=>exact .inl ⟨id,rfl,rfl⟩
 | ret=>exact .inr ⟨rfl,rfl⟩
theorem exec_yld {d:Option Nat} {x:X} {as:List X} {gd:Gd} {b m:Nat} {R0:Regs} {ps:List Nat} {asg body:C} {M1 M:Out→Heap→Prop} (ho:ops[i]?=some o) (hc:compO P n ops mu o st=some ⟨d,.callv x as,gd,st'⟩) (hn:a.tmps.size=n) (hr:RgOk g w R a (tmpsOf o (.callv x as) gd)) (hw:wants R gd=true)
  (hx:x.ev R=.yld b) (hb:H[b]?=some (.loop .ready none m R0 ps asg body)) (hlen:as.length=ps.length) (ck:CkAll P g) (sr:SR w0 g H w)
  (ih1:Mot P (.code asg (setps R0 ps (as.map (X.ev R)))) H M1) (h1':∀ o H',M1 o H'→(∃ R1,o=.ex .normal R1)∧H'[b]?=some (.loop .ready none m R0 ps asg body))
  (ih2:∀ R1 H1,M1 (.ex .normal R1) H1→Mot P (.code body R1) (H1.set b (.loop .busy none m R0 ps asg body)) M) (h2':∀ o H',M o H'→H'[b]?=some (.loop .busy none m R0 ps asg body))
  {K:Act→World→Prop} {Q:Exit→Act→World→Prop}
  (hk:∀ v w' g' H' t,((∃ R' H2,M (.ex .normal R') H2∧t=.bool true∧H'=H2.set b (.loop .ready none m R0 ps asg body))∨(∃ e R' H2,M (.ex e R') H2∧e≠.normal∧t=.bool false∧H'=H2.set b (.loop .done (some e) m R0 ps asg body))) →
   Le g w g' w'→SR w0 g' H' w'→VR g' w' t v→Fr g H g' H'→K (a.put d v) w'):wpOpIn (Fw r) 0 P ops Q i K a w:=by
 obtain ⟨op',gd',h1,h2,h3,h4,h5⟩:=compO_inv hc
 cases h3
 refine wp_wanted ho hc hn hr hw ⟨fun _ _=>trivial,?_⟩
 have hnd:=not_defer h1
 obtain ⟨t,args,tys,rfl,hop,h6⟩:=compOp1_callv h1
 have hrg:=op_regs hr
 have hv:=compXs_ok (ρ:=a.eval) args.toList as h6 (rv_of (hrg.sub fun t ht=>by
  simp only [opTmps,List.mem_filterMap] at ht ⊢
  obtain ⟨x,hx,e⟩:=ht
  exact ⟨x,by rw [hop];simp only [Op.operands,Call.operands];simp at hx;simp [hx],e⟩))
 have hf:=hrg t (by rw [hop];simp only [opTmps,List.mem_filterMap];exact ⟨.tmp t,by simp [Op.operands,Call.operands],rfl⟩)
 simp only [X.ev] at hx
 rw [hx] at hf
 generalize hv':a.tmps.getD t undef=vf at hf
 cases hf with
 | @yld _ l o' q' hφ =>
  obtain ⟨k1,rec,k2,k3,k4,k5,k6,k7,k8,k9,k10⟩:=sr.blk b _ hb l o' q' hφ
  rw [Oper.semAt_eq _ _ _ hnd]
  have hsz:(args.toList.map a.eval).toArray.size=rec.params.size:=by
   have:=hv.1;simp at this
   have e2:rec.params.size=ps.length:=by rw [← k5];simp
   simp [e2,← hlen,this]
  have hrun:(execOp a.eval o).run P w=.ok (.round l rec.fn ((rec.params.zip (args.toList.map a.eval).toArray).foldl (fun tmps (t,a)=>tmps.setIfInBounds t a) rec.tmps) rec.assign rec.body) w:=by
   have hy:=run_yield (P:=P) (args:=(args.toList.map a.eval).toArray) k2 hsz
   have e2:(args.toList.map a.eval).toArray=args.map a.eval:=by rw [← Array.toList_map]
   rw [e2] at hy ⊢
   have e:a.eval (.tmp t)=.func (.yield l) #[] #[]:=hv'
   simp only [execOp,hop,resolve,e,Deferred.ofValue,invoke]
   simpa using hy
  rw [hrun,Oper.uponIn_round]
  refine ⟨fun h=>by simp [Fw] at h,roundIn_of_wpIn trivial ?_⟩
  have hts:(rec.params.zip (args.toList.map a.eval).toArray).foldl (fun tmps (t,a)=>tmps.setIfInBounds t a) rec.tmps=(ps.zip (args.toList.map a.eval)).foldl (fun tmps (t,a)=>tmps.setIfInBounds t a) rec.tmps:=by
   rw [← Array.foldl_toList,Array.toList_zip,k5]
  rw [hts]
  have hset:=setps_ok ps (as.map (X.ev R)) (args.toList.map a.eval) R0 rec.tmps hv (by simpa using hlen) k6 k7 k8
  obtain ⟨an1,hc1⟩:=(ck _ _ _).1 k9
  obtain ⟨an2,hc2⟩:=(ck _ _ _).1 k10
  refine wpIn_mono (ih1 w0 g w { tmps:=(ps.zip (args.toList.map a.eval)).foldl (fun tmps (t,a)=>tmps.setIfInBounds t a) rec.tmps,defers:=[] } m an1 false rec.assign (some l) hc1 (by simp) ck sr hset).1 fun e a1 w1 hp=>?_
  obtain ⟨ex,R1,g1,H1,e1,hm,le1,sr1,hr1,fr1,-,-⟩:=hp
  obtain ⟨⟨R1',hR1⟩,hb1⟩:=h1' _ _ hm
  cases hR1
  cases e <;> simp only [exOf,Option.some.injEq,reduceCtorEq] at e1
  have hφ1:=le1.φ _ _ hφ
  obtain ⟨j1,rec1,j2,j3,j4,j5,j6,j7,j8,j9,j10⟩:=sr1.blk b _ hb1 l o' q' hφ1
  refine ⟨_,run_beginRound j2 j3,?_⟩
  obtain ⟨le2,sr2,fr2⟩:=sr1.setblk (y':=.loop .busy none m R0 ps asg body) (x':=.loop { rec1 with state:=.busy }) hb1 hφ1 j1 j2 rfl rfl (fun w' le hw' r o q hq=>by
   rw [hφ1] at hq;cases hq
   exact ⟨j1,_,hw',rfl,j4,j5,j6,fun t ht=>(j7 t ht).mono le,j8,j9,j10⟩)
  refine wpIn_mono (ih2 _ _ hm w0 g1 _ a1 m an2 false rec.body (some l) hc2 (by simp) (ck.mono le1) sr2 ⟨hr1.1,fun t ht=>(hr1.2 t ht).mono le2⟩).1 fun e2 a2 w3 hp2=>?_
  obtain ⟨ex2,R2,g2,H2,e3,hm2,le3,sr3,hr3,fr3,-,-⟩:=hp2
  have hb2:=h2' _ _ hm2
  have hφ2:=le3.φ _ _ hφ1
  obtain ⟨i1,rec2,i2,i3,i4,i5,i6,i7,i8,i9,i10⟩:=sr3.blk b _ hb2 l o' q' hφ2
  have fin:∀ (jump:Option Code) (st:LSt) (pe:Option Ex) (v:Bool),pendK pe=jump→st.real=(if jump.isNone then .ready else .done)→v=jump.isNone →
    ((v=true∧ex2=.normal∧st=.ready∧pe=none)∨(v=false∧ex2≠.normal∧st=.done∧pe=some ex2)) →
    ∃ v' w',(Instr.endRound l jump).run P w3=.ok v' w'∧K (a.put o.dst v') w':=by
   intro jump st pe v q1 q2 q3 q4
   obtain ⟨le4,sr4,fr4⟩:=sr3.setblk (y':=.loop st pe m R0 ps asg body) (x':=.loop { rec2 with state:=if jump.isNone then .ready else .done,pending:=jump }) hb2 hφ2 i1 i2 rfl rfl (fun w' le hw' r o q hq=>by
    rw [hφ2] at hq;cases hq
    exact ⟨i1,_,hw',q2.symm,q1.symm,i5,i6,fun t ht=>(i7 t ht).mono le,i8,i9,i10⟩)
   refine ⟨_,_,run_endRound jump i2,?_⟩
   refine hk _ _ g2 (H2.set b (.loop st pe m R0 ps asg body)) (.bool v) ?_ (((le1.trans le2).trans le3).trans le4) sr4 (by rw [← q3];exact .bool v) (((fr1.trans fr2).trans fr3).trans fr4)
   rcases q4 with ⟨rfl,rfl,rfl,rfl⟩ | ⟨rfl,hne,rfl,rfl⟩
   ·exact .inl ⟨R2,H2,hm2,rfl,rfl⟩
   ·exact .inr ⟨ex2,R2,H2,hm2,hne,rfl,rfl⟩
  cases e2 <;> simp only [exOf,Option.some.injEq,reduceCtorEq] at e3 <;> subst e3
  case normal=>exact fin none .ready none true rfl rfl rfl (.inl ⟨rfl,rfl,rfl,rfl⟩)
  case exit id=>exact fin (some (.exit id)) .done (some (.exit id)) false rfl rfl rfl (.inr ⟨rfl,by simp,rfl,rfl⟩)
  case ret=>exact fin (some .ret) .done (some .ret) false rfl rfl rfl (.inr ⟨rfl,by simp,rfl,rfl⟩)
end
theorem leaves_marks {P:Program} {w0:World} {F:Func} {n:Nat} {t0:T} {res:List Rs}:∀ (ts:List T) (df:List Deferred) (bs:List Nat) (g:Ctx) (H:Heap) (w:World) (R:Regs) (a:Act) (Rr:Ending→World→Prop),
  MkOk g ts df→marksL ts=some bs→bs.Nodup→(∀ b∈bs,H[b]?=some .dfr)→SR w0 g H w→RegOk g w n R a →
  (∀ w' v,Le g w g w'→SR w0 g (kill H bs) w'→RegOk g w' n R a→Fr g H g (kill H bs)→(results F a.tmps).run P w'=.ok v w'→VR g w' t0 v→Rr (.returned v) w') →
  resT R (kill H bs) res=some t0→(∀ (g:Ctx) (w:World) (H:Heap),SR w0 g H w→RegOk g w n R a→resT R H res=some t0→∃ v,(results F a.tmps).run P w=.ok v w∧VR g w t0 v) →
  LeavesInM (Fw none) 0 P F a.tmps Rr df .returning w:=by
 intro ts
 induction ts with
 | nil =>
  intro df bs g H w R a Rr hm hb _ _ sr hr hk hres hrun
  cases hm
  simp only [marksL,Option.some.injEq] at hb;subst hb
  obtain ⟨v,h1,h2⟩:=hrun g w H sr hr hres
  exact ⟨v,h1,hk w v (.refl _ _) sr hr (.refl _ _) h1 h2⟩
 | cons t ts ih =>
  intro df bs g H w R a Rr hm hb hnd hdfr sr hr hk hres hrun
  cases hm with
  | @cons b r o q _ df hφ hms =>
   simp only [marksL,markOf] at hb
   split at hb
   ·rename_i b' bs' e1 e2
    cases e1
    cases hb
    have hdb:=hdfr b (by simp)
    obtain ⟨k1,k2⟩:=sr.blk b _ hdb r o q hφ
    obtain ⟨le,sr',fr'⟩:=sr.setblk (y':=.dead) (x':=.deferred none) hdb hφ k1 k2 rfl rfl (fun _ _ _=>trivial)
    refine ⟨by simp,.inl ⟨r,_,rfl,run_takeDeferred k2,?_⟩⟩
    simp only [List.nodup_cons] at hnd
    refine ih df bs' g (H.set b .dead) _ R a Rr hms e2 hnd.2 (fun c hc=>?_) sr' ⟨hr.1,fun t ht=>(hr.2 t ht).mono le⟩ (fun w' v le2 sr2 hr2 fr2=>hk w' v (le.trans le2) sr2 hr2 (fr'.trans fr2)) hres hrun
    exact set_ne (hdfr c (by simp [hc])) (by rintro rfl;exact hnd.1 hc)
   ·cases hb
def resFn (tmps:Array Value):ResultVar→Sem Value
 | .tmp t=>pure (tmps.getD t undef)
 | .cell a t=>do loadVar t (← asAddr (tmps.getD a undef))
theorem run_results {P:Program} {w0:World} {g:Ctx} {w:World} {H:Heap} {R:Regs} {a:Act} {n:Nat} (sr:SR w0 g H w):∀ (l:List ResultVar) (res:List Rs) (ts:List T),resOf P l=some res→resL R H res=some ts→(∀ t∈res,rsLt n t=true)→RegOk g w n R a →
  ∃ vs:List Value,(l.mapM (resFn a.tmps)).run P w=.ok vs w∧VRs g w ts vs
 | [],res,ts,h,ht,_,_=>by simp [resOf] at h;subst h;simp [resL] at ht;subst ht;exact ⟨[],by simp,VRs.nil⟩
 | .tmp t :: l,res,ts,h,ht,hn,hr=>by
  simp only [resOf,Option.map_eq_some_iff] at h
  obtain ⟨res',h1,rfl⟩:=h
  simp only [resL,resV] at ht
  split at ht
  ·rename_i v vs hv hvs
   cases ht;cases hv
   obtain ⟨us,h2,h3⟩:=run_results (P:=P) sr l res' vs h1 hvs (fun t ht=>hn t (by simp [ht])) hr
   exact ⟨a.tmps.getD t undef :: us,by rw [List.mapM_cons];simp only [Sem.run_bind,resFn,Sem.run_pure,Result.andThen_ok,h2],VRs.cons (hr.2 t (by simpa [rsLt] using hn (.t t) (by simp))) h3⟩
  ·cases ht
 | .cell c t :: l,res,ts,h,ht,hn,hr=>by
  simp only [resOf] at h
  split at h
  ·rename_i d i hu hi
   simp only [Option.map_eq_some_iff] at h
   obtain ⟨res',h1,rfl⟩:=h
   simp only [resL] at ht
   split at ht
   ·rename_i v vs hv hvs
    cases ht
    obtain ⟨us,h2,h3⟩:=run_results (P:=P) sr l res' vs h1 hvs (fun t ht=>hn t (by simp [ht])) hr
    simp only [resV] at hv
    split at hv
    ·rename_i cs hcs
     have hc:=hr.2 c (by simpa [rsLt] using hn (.cl c (if isAggD d=true then i.size else 1) (isAggD d)) (by simp))
     obtain ⟨u,w',g',hrun,hw,hvr,hg⟩:=ld_same (P:=P) hu hi rfl (fun e=>by rw [if_pos e]) sr hc hcs hv
     subst hw;subst hg
     obtain ⟨r,o,us0,hp,_⟩:=ldc_ok sr hc hcs
     have hrun2:(resFn a.tmps (.cell c t)).run P w'=.ok u w':=by
      rw [← hrun,hp]
      have e:resFn a.tmps (.cell c t)=(asAddr (a.tmps.getD c undef) >>= fun x=>loadVar t x):=rfl
      rw [e,hp]
      simp only [asAddr,Instr.loadAt,Instr.sureAddr,Sem.run_bind,Sem.run_pure,Result.andThen_ok]
     exact ⟨u :: us,by rw [List.mapM_cons];simp only [Sem.run_bind,hrun2,Result.andThen_ok,h2,Sem.run_pure],VRs.cons hvr h3⟩
    ·cases hv
   ·cases ht
  ·cases h
theorem results_ok {P:Program} {fn:Func} {w0:World} {g:Ctx} {w:World} {H:Heap} {R:Regs} {a:Act} {n:Nat} {res:List Rs} {t:T} (sr:SR w0 g H w) (h:resOf P fn.results.toList=some res) (hn:∀ t∈res,rsLt n t=true) (hr:RegOk g w n R a) (ht:resT R H res=some t):∃ v,(results fn a.tmps).run P w=.ok v w∧VR g w t v:=by
 simp only [resT,Option.map_eq_some_iff] at ht
 obtain ⟨ts,ht,rfl⟩:=ht
 obtain ⟨vs,h1,h2⟩:=run_results (P:=P) sr fn.results.toList res ts h ht hn hr
 have hl:ts.length=vs.length:=h2.1
 have e:results fn a.tmps=(fn.results.mapM (resFn a.tmps) >>= fun vs=>pure (if h:vs.size=1 then vs[0] else .tuple vs)):=rfl
 refine ⟨if h:vs.toArray.size=1 then vs.toArray[0] else .tuple vs.toArray,?_,?_⟩
 ·rw [e,Array.mapM_eq_mapM_toList]
  simp only [Sem.run_bind,Sem.run_map,map_eq_pure_bind,h1,Result.andThen_ok,Sem.run_pure]
 ·match ts,vs,hl,h2 with
  | [],[],_,_=>exact .tup rfl (by simp)
  | [t],[v],_,h2=>simpa [tupT] using h2.head
  | t :: t' :: ts,v :: v' :: vs,_,h2 =>
   have:¬ (v :: v' :: vs).toArray.size=1:=by simp
   rw [dif_neg this]
   simpa [tupT] using h2.tup
theorem compO_dn {P:Program} {n:Nat} {ops:Array Oper} {mu:Bool} {o:Oper} {st:List Rd} {y:O} (h:compO P n ops mu o st=some y):y.d≠some n:=by
 obtain ⟨_,_,_,_,e,_,h5⟩:=compO_inv h
 subst e
 exact fun e=>Nat.lt_irrefl n (h5 n e)
theorem ckd {P:Program} {n:Nat} {ops:Array Oper} {mu:Nat→Bool} {w0 w ws w':World} {df:List Deferred} {mk:T} {g g0 g':Ctx} {H H0 H':Heap} {pre pre':List It} {L L':Array Bool} {R R':Regs} {a a':Act}
  (h:Dr P n ops mu w0 df mk g0 ws H0 pre L g R H a w) (h':Dr P n ops mu w0 df mk g0 ws H0 pre' L' g' R' H' a' w') (ck:CkAll P g):CkAll P g':=fun n c k=>by rw [h'.le.ck,← h.le.ck];exact ck n c k
theorem compFn_inv {P:Program} {an:An} {f:FuncId} {fn:Fn} (hfn:compFn P an f=some fn):∃ F code res body,P.funcs[f]?=some F∧F.body=some code∧resOf P F.results.toList=some res∧compC P F.ntmps an true code=some body ∧
  callable P f=true∧F.params.size+F.nfree≤F.ntmps∧(∀ t∈res,rsLt F.ntmps t=true)∧fn=⟨F.ntmps,F.params.size+F.nfree,res,body⟩:=by
 unfold compFn at hfn
 cases hF:P.funcs[f]? with
 | none=>simp [hF] at hfn
 | some F =>
  simp only [hF] at hfn
  split at hfn
  ·rename_i code res hb hres
   split at hfn
   ·rename_i c hcc
    split at hfn
    ·rename_i hk
     simp only [Bool.and_eq_true,decide_eq_true_eq,List.all_eq_true] at hk
     obtain ⟨⟨hcal,hsz⟩,hlt⟩:=hk
     cases hfn
     exact ⟨F,code,res,c,rfl,hb,hres,hcc,hcal,hsz,hlt,rfl⟩
    ·cases hfn
   ·cases hfn
  ·cases hfn
theorem enter_regs {F:Func} {g:Ctx} {w:World} {as:List T} {args:List Value} (hv:VRs g w as args) {k:Nat} (hn:as.length=k) (hsz:k≤F.ntmps) :
  RegOk g w F.ntmps (regs0 as) { tmps:=args.toArray++Array.replicate (F.ntmps-args.toArray.size) undef,defers:=[] }:=by
 have hal:args.length=as.length:=hv.1.symm
 refine ⟨by simp [hal,hn];omega,fun t ht=>?_⟩
 by_cases hta:t<as.length
 ·simp only [regs0]
  rw [List.getD_eq_getElem?_getD,List.getElem?_eq_getElem hta,Option.getD_some]
  rw [Array.getD_eq_getD_getElem?,Array.getElem?_append_left (by simpa [hal] using hta)]
  simp only [List.getElem?_toArray,List.getElem?_eq_getElem (hal ▸ hta:t<args.length),Option.getD_some]
  exact hv.2 t _ _ (List.getElem?_eq_getElem hta) (List.getElem?_eq_getElem _)
 ·simp only [regs0]
  rw [List.getD_eq_getElem?_getD,List.getElem?_eq_none (by omega),Option.getD_none]
  rw [Array.getD_eq_getD_getElem?,Array.getElem?_append_right (by simp [hal];omega),Array.getElem?_replicate]
  split <;> exact undef_vr
theorem PostC.weak {w0 w:World} {n:Nat} {hr hr':Bool} {df:List Deferred} {mk:T} {g:Ctx} {H:Heap} {Q:Out→Heap→Prop} (hh:hr=false→hr'=false) {e:Exit} {a:Act} {u:World} (h:PostC w0 n hr' df mk g w H Q e a u):PostC w0 n hr df mk g w H Q e a u :=
 h.trans (.refl _ _) (.refl _ _) id fun e=>⟨hh e,rfl,rfl⟩
theorem W.sim {P:Program} {E:Env} (hE:EnvOk P E) {j:J} {H:Heap} {Q:Out→Heap→Prop} (h:W E j H Q):Mot P j H Q:=by
 induction h with
 | @skip R H Q h =>
  intro w0 g w a n an top code r hc ht ck sr hr
  obtain rfl:=inv_skip hc
  exact ⟨wpIn_skip ⟨.normal,R,g,H,rfl,h,.refl _ _,sr,hr,.refl _ _,id,fun _=>⟨rfl,rfl⟩⟩,by rintro _ ⟨⟩⟩
 | @exit id R H Q h =>
  intro w0 g w a n an top code r hc ht ck sr hr
  obtain rfl:=inv_exit hc
  exact ⟨wpIn_exit ⟨.exit id,R,g,H,rfl,h,.refl _ _,sr,hr,.refl _ _,fun m=>m,fun _=>⟨rfl,rfl⟩⟩,by rintro _ ⟨⟩⟩
 | @ret R H Q h =>
  intro w0 g w a n an top code r hc ht ck sr hr
  obtain rfl:=inv_ret hc
  exact ⟨wpIn_ret ⟨.ret,R,g,H,rfl,h,.refl _ _,sr,hr,.refl _ _,id,fun _=>⟨rfl,rfl⟩⟩,by rintro _ ⟨⟩⟩
 | @reg l R H Q _ ih =>
  intro w0 g w a n an top code r hc ht ck sr hr
  obtain ⟨id,ops,mu,⟨rfl,h1⟩ | ⟨rfl,ord,its,h1,h2⟩⟩:=inv_ops hc
  ·exact ⟨wpIn_mono (wpIn_region (ih.1 w0 g w H g w a n ops mu _ r h1 ck sr hr (.refl _ _) (.refl _ _))) fun e a w hp=>hp.toC,by rintro _ ⟨⟩⟩
  ·refine ⟨wpIn_mono (wpIn_region_any (Q:=Post w0 n a.defers (R n) g w H Q) hE.mixed ?_) fun e a w hp=>hp.toC,by rintro _ ⟨⟩⟩
   obtain ⟨sr',le⟩:=sr.drew (w':={ w with drawn:=w.drawn+1 }) (Tr.drew w) rfl
   have hd:=Dr.init (ops:=ops) (mu:=mu) (P:=P) (mk:=R n) sr' hr.1 rfl (fun t ht=>(hr.2 t ht).mono le) le (.refl g H)
   refine ih.2 w0 n ops mu a.defers (R n) g w H [] _ g a _ ord its r ops.size ck h1 h2 hd ?_
   exact Nat.le_trans (List.count_le_length) (by simp)
 | @seq x y R H Q M _ h2 h3 ih1 ih2 =>
  intro w0 g w a n an top code r hc ht ck sr hr
  obtain ⟨c,d,rfl,k1,k2⟩:=inv_seq hc
  refine ⟨wpIn_seq (wpIn_mono (ih1 w0 g w a n an top c r k1 ht ck sr hr).1 fun e a' w' hp=>?_),by rintro _ ⟨⟩⟩
  have hb:(C.seq x y).hasR=false→x.hasR=false∧y.hasR=false:=by simp [C.hasR]
  obtain ⟨ex,R',g',H',e1,hm,le,sr',hr',fr,hmk,hdf⟩:=hp
  cases e <;> simp only [exOf,Option.some.injEq,reduceCtorEq] at e1 <;> subst e1
  case normal =>
   exact wpIn_mono (ih2 R' H' hm w0 g' w' a' n an top d r k2 ht (ck.mono le) sr' hr').1 fun e a2 w2 hp=>hp.trans le fr hmk fun e=>⟨(hb e).2,hdf (hb e).1⟩
  case exit id=>exact ⟨_,R',g',H',rfl,h3 _ _ hm (by simp),le,sr',hr',fr,hmk,fun e=>hdf (hb e).1⟩
  case ret=>exact ⟨_,R',g',H',rfl,h3 _ _ hm (by simp),le,sr',hr',fr,hmk,fun e=>hdf (hb e).1⟩
 | @cond x c d R H Q t hx _ ih =>
  intro w0 g w a n an top code r hc ht ck sr hr
  obtain ⟨o,d',e',rfl,k1,k2,k3,k4⟩:=inv_cond hc
  refine ⟨wpIn_cond (t:=t) ?_ ?_,by rintro _ ⟨⟩⟩
  ·have hv:VR g w (.bool t) (a.eval o):=by
    cases o with
    | tmp u=>simp only [compX,Option.some.injEq] at k1;subst k1;simp only [X.ev] at hx;rw [← hx];exact hr.2 u (k4 u rfl)
    | const v =>
     simp only [compX,Option.map_eq_some_iff] at k1
     obtain ⟨u,h1,rfl⟩:=k1
     simp only [X.ev] at hx;subst hx
     exact constT_ok h1
    | «global» _=>simp [compX] at k1
    | func f=>simp only [compX,Option.some.injEq] at k1;subst k1;simp [X.ev] at hx
   generalize a.eval o=v at hv
   cases hv;rfl
  ·cases t
   ·exact wpIn_mono (ih w0 g w a n an top e' r k3 ht ck sr hr).1 fun e a w hp=>hp.weak (by simp [C.hasR])
   ·exact wpIn_mono (ih w0 g w a n an top d' r k2 ht ck sr hr).1 fun e a w hp=>hp.weak (by simp [C.hasR];intro h _;exact h)
 | @block id x R H Q M _ h2 h3 ih =>
  intro w0 g w a n an top code r hc ht ck sr hr
  obtain ⟨c,rfl,k1⟩:=inv_block hc
  refine ⟨wpIn_block (wpIn_mono (ih w0 g w a n an top c r k1 ht ck sr hr).1 fun e a' w' hp=>?_),by rintro _ ⟨⟩⟩
  obtain ⟨ex,R',g',H',e1,hm,le,sr',hr',fr,hdf⟩:=hp
  cases e <;> simp only [exOf,Option.some.injEq,reduceCtorEq] at e1 <;> subst e1
  case normal=>exact ⟨_,R',g',H',rfl,h3 _ _ hm (by simp),le,sr',hr',fr,hdf⟩
  case exit id' =>
   simp only [Exit.inBlock]
   split
   ·rename_i e;subst e;exact ⟨_,R',g',H',rfl,h2 _ _ hm,le,sr',hr',fr,hdf⟩
   ·rename_i e;exact ⟨_,R',g',H',rfl,h3 _ _ hm (fun R2 e2=>by cases e2;exact e rfl),le,sr',hr',fr,hdf⟩
  case ret=>exact ⟨_,R',g',H',rfl,h3 _ _ hm (by simp),le,sr',hr',fr,hdf⟩
 | @loop x R H Q M _ h2 h3 ih1 ih2 =>
  intro w0 g w a n an top code r hc ht ck sr hr
  obtain ⟨c,rfl,k1⟩:=inv_loop hc
  have key:LoopIn (Fw r) 0 P c (PostC w0 n x.loop.hasR a.defers (R n) g w H Q) a w:=by
   refine loopIn_turn (wpIn_mono (ih1 w0 g w a n an top c r k1 ht ck sr hr).1 fun e a' w' hp=>?_)
   obtain ⟨ex,R',g',H',e1,hm,le,sr',hr',fr,hmk,hdf⟩:=hp
   cases e <;> simp only [exOf,Option.some.injEq,reduceCtorEq] at e1 <;> subst e1
   case normal =>
    have:=(ih2 R' H' hm w0 g' w' a' n an top (.loop c) r hc ht (ck.mono le) sr' hr').2 c rfl
    intro b k cs h1 h2 h4
    obtain ⟨e,a2,w2,hq,harr⟩:=this b k cs h1 h2 h4
    exact ⟨e,a2,w2,hq.trans le fr hmk fun e=>⟨e,hdf e⟩,harr⟩
   case exit id=>exact ⟨_,R',g',H',rfl,h3 _ _ hm (by simp),le,sr',hr',fr,hmk,hdf⟩
   case ret=>exact ⟨_,R',g',H',rfl,h3 _ _ hm (by simp),le,sr',hr',fr,hmk,hdf⟩
  exact ⟨loopIn_wp key,fun body e=>by cases e;exact key⟩
 | @rangeF m x ps asg body R H Q f cs M hx _ h2 ih =>
  intro w0 g w a n an top code r hc ht ck sr hr
  obtain ⟨gop,qs,c,d,rfl,k1,k2,k3,k4,k5,rfl,k7,rfl⟩:=inv_range hc
  obtain rfl:=ht k4
  refine ⟨wpIn_rangeFunc fun fn _=>?_,by rintro _ ⟨⟩⟩
  have hv:VR g w (.fn f cs) (a.eval gop):=by
   cases gop with
   | tmp u=>simp only [compX,Option.some.injEq] at k1;subst k1;simp only [X.ev] at hx;rw [← hx];exact hr.2 u (k5 u (by simp [regsX]))
   | const v =>
    simp only [compX,Option.map_eq_some_iff] at k1
    obtain ⟨u,h1,rfl⟩:=k1
    simp only [X.ev] at hx;subst hx
    exact constT_ok h1
   | «global» _=>simp [compX] at k1
   | func f'=>simp only [compX,Option.some.injEq] at k1;subst k1;simp only [X.ev] at hx;cases hx;exact .fn rfl (by simp)
  generalize hgv:a.eval gop=vf at hv
  cases hv with
  | @fn _ _ vs hl hcs =>
   obtain ⟨g1,le1,sr1,fr1,hφ1⟩:=sr.newblk (x:=.deferred (some [])) (y:=.dfr) rfl (fun g' w' _ q1 q2 q3 r o q hq=>by rw [q2] at hq;cases hq;exact ⟨q1,q3⟩)
   have hsz:(w.alloc (.deferred (some []))).heap.size=w.heap.size+1:=by simp
   obtain ⟨g2,le2,sr2,fr2,hφ2⟩:=sr1.newblk (x:=.loop { state:=.ready,pending:=none,fn,tmps:=a.tmps,params:=qs,assign:=c,body:=d,defers:=w.heap.size }) (y:=.loop .ready none m R qs.toList asg body) rfl
    (fun g' w' le q1 q2 q3 r o q hq=>by
     rw [q2] at hq;cases hq
     refine ⟨q1,_,q3,rfl,rfl,rfl,hr.1,fun t ht=>((hr.2 t ht).mono le1).mono le,k7,?_,?_⟩
     ·rw [le.ck,le1.ck];exact (ck _ _ _).2 ⟨an,k2⟩
     ·rw [le.ck,le1.ck];exact (ck _ _ _).2 ⟨an,k3⟩)
   rw [hsz] at hφ2
   have hlen:(H++[B.dfr]).length=H.length+1:=by simp
   rw [hlen] at hφ2
   have happ:H++[B.dfr]++[B.loop .ready none m R qs.toList asg body]=H++[.dfr,.loop .ready none m R qs.toList asg body]:=by simp
   rw [happ] at sr2 fr2
   have le12:=le1.trans le2
   have hargs:VRs g2 ((w.alloc (.deferred (some []))).alloc (.loop { state:=.ready,pending:=none,fn,tmps:=a.tmps,params:=qs,assign:=c,body:=d,defers:=w.heap.size })) (.yld (H.length+1) :: cs) (.func (.yield (w.heap.size+1)) #[] #[] :: vs.toList) :=
    VRs.cons (.yld hφ2) ⟨by simp [hl],fun i t v ha hb=>(hcs i t v ha (by simpa using hb)).mono le12⟩
   obtain ⟨hcal,hcalls⟩:=ih w0 g2 _ _ (ck.mono le12) sr2 hargs
   refine ⟨w.heap.size+1,[{ target:=.collected w.heap.size,args:=#[] }],((w.alloc (.deferred (some []))).alloc (.loop { state:=.ready,pending:=none,fn,tmps:=a.tmps,params:=qs,assign:=c,body:=d,defers:=w.heap.size })),{ target:=.fn (.func f) vs,args:=#[.func (.yield (w.heap.size+1)) #[] #[]] },((w.alloc (.deferred (some []))).alloc (.loop { state:=.ready,pending:=none,fn,tmps:=a.tmps,params:=qs,assign:=c,body:=d,defers:=w.heap.size })),f,#[.func (.yield (w.heap.size+1)) #[] #[]]++vs,((w.alloc (.deferred (some []))).alloc (.loop { state:=.ready,pending:=none,fn,tmps:=a.tmps,params:=qs,assign:=c,body:=d,defers:=w.heap.size })),run_enterLoop_outer _ _ _ _ _,?_,fun _ _=>trivial,?_,fun h=>by simp [Fw] at h,?_⟩
   ·simp only [resolve,hgv,Deferred.ofValue]
    simp [Act.eval]
   ·exact run_callFunc hcal
   ·have e3:(.func (.yield (w.heap.size+1)) #[] #[] :: vs.toList:List Value).toArray=#[.func (.yield (w.heap.size+1)) #[] #[]]++vs:=by simp
    rw [e3] at hcalls
    refine hcalls.mono fun e w3 ⟨v,t,g3,H3,he,hM,le3,sr3,_,fr3⟩=>?_
    subst he
    obtain ⟨st,pend,hst,hpn,hb3,hQ⟩:=h2 _ _ hM
    have hφ3:=le3.φ _ _ hφ2
    obtain ⟨j1,rec,j2,j3,j4,j5,j6,j7,j8,j9,j10⟩:=sr3.blk _ _ hb3 _ _ _ hφ3
    obtain ⟨le4,sr4,fr4⟩:=sr3.setblk (y':=.dead) (x':=.loop { rec with state:=.exhausted }) hb3 hφ3 j1 j2 rfl rfl (fun _ _ _=>trivial)
    refine ⟨_,_,run_endLoop j2 (by rw [j3];cases st <;> simp [LSt.real] at hst ⊢),?_⟩
    generalize w3.putObj (w.heap.size+1) (.loop { rec with state:=.exhausted })=W4 at le4 sr4 ⊢
    rw [j4]
    have hLe:=(le12.trans le3).trans le4
    have hFr:Fr g H g3 (H3.set (H.length+1) .dead):=by
     have:=(fr1.trans fr2).trans (fr3.trans fr4)
     exact this
    have post:∀ e,exOf e=some (pendEx pend)→PostC w0 m (C.rangeF m x qs.toList asg body).hasR a.defers (R m) g w H Q e { a with defers:=[{ target:=.collected w.heap.size,args:=#[] }]++a.defers } W4:=by
     intro e he
     refine ⟨_,_,g3,_,he,hQ,hLe,sr4,⟨hr.1,fun t ht=>?_⟩,hFr,fun hm=>?_,fun h=>by simp [C.hasR] at h⟩
     ·simp only [upd];rw [if_neg (Nat.ne_of_lt ht)];exact (hr.2 t ht).mono hLe
     ·obtain ⟨ts,e1,e2⟩:=hm
      refine ⟨.ptr H.length 0 :: ts,by simp [upd,e1,pushMark],.cons (((le2.trans le3).trans le4).φ _ _ hφ1) (e2.mono hLe)⟩
    cases hp:pend with
    | none=>simp only [pendK];exact post .normal (by rw [hp];rfl)
    | some e =>
     rcases pendK_ex (e:=e) (by rintro rfl;exact hpn hp) with ⟨id,rfl,e5⟩ | ⟨rfl,e5⟩
     ·simp only [e5];exact wpIn_exit (post (.exit id) (by rw [hp];rfl))
     ·simp only [e5];exact wpIn_ret (post .ret (by rw [hp];rfl))
 | @nil R H Q h =>
  refine ⟨fun w0 g0 ws H0 g w a n ops mu is r hc ck sr hr le fr=>?_,fun w0 n ops mu df mk g0 ws H0 pre L g a w ord its r fuel ck h1 h2 hd hl=>?_⟩
  ·obtain rfl:=compSeq_nil hc
   exact ⟨.normal,R,g,H,rfl,h,le,sr,hr,fr,rfl,rfl⟩
  ·have hall:=compIts_all ord pre its h1
   cases its with
   | cons _ _=>simp at h2
   | nil=>exact drawn_end (by simpa using hall) h fuel L g a w hl hd
 | @no o l R H Q hg _ ih =>
  refine ⟨fun w0 g0 ws H0 g w a n ops mu is r hc ck sr hr le fr=>?_,fun w0 n ops mu df mk g0 ws H0 pre L g a w ord its r fuel ck h1 h2 hd hl=>?_⟩
  ·obtain ⟨i,is',oper,rfl,ho,hco,hrest⟩:=compSeq_cons hc
   rw [wpOpsIn_cons]
   refine exec_no ho hco hr.1 (hr.rg (ts_lt hco)) hg ?_
   have:=ih.1 w0 g0 ws H0 g w (a.put o.d undef) n ops mu is' r hrest ck sr (hr.put (by obtain ⟨_,_,_,_,e,_,h5⟩:=compO_inv hco;rw [e];exact h5) (.refl _ _) undef_vr) le fr
   rwa [put_df,updo_ne (compO_dn hco)] at this
  ·obtain ⟨x,l',ord',oper,rfl,rfl,h3,hh,h4⟩:=its_cons h1 h2
   cases he:x.early with
   | true=>exact ih.2 w0 n ops mu df mk g0 ws H0 _ L g a w ord' l' r fuel ck h4 h3 (hd.take_no hh he hg) hl
   | false =>
    refine drawn_wait (Tl:=fun R' H'=>R'=updo R x.o.d undefT∧H'=H) hh he (compIts_all ord pre _ h1) (compIts_beh ord' _ l' h4) ?_ ?_ fuel L g a w hl hd
    ·rintro R' H' ⟨rfl,rfl⟩ fuel L' g' a' w' hL hd'
     exact ih.2 w0 n ops mu df mk g0 ws H0 _ L' g' a' w' ord' l' r fuel (ckd hd hd' ck) h4 h3 hd' hL
    ·intro L g a w hd hp K hK
     exact exec_no hh.ho hh.co hd.tsz (hd.ready_regs hh hp) hg (hK _ _ g _ w ⟨rfl,rfl⟩ (hd.both hh he hp (.refl _ _) hd.sr undef_vr (.refl _ _) fun _ _ _ _ _ _ _ _ _ e=>e))
 | @op d b gd s l R H Q v H' hg hv hs _ ih =>
  refine ⟨fun w0 g0 ws H0 g w a n ops mu is r hc ck sr hr le fr=>?_,fun w0 n ops mu df mk g0 ws H0 pre L g a w ord its r fuel ck h1 h2 hd hl=>?_⟩
  ·obtain ⟨i,is',oper,rfl,ho,hco,hrest⟩:=compSeq_cons hc
   rw [wpOpsIn_cons]
   obtain ⟨u,w',g',hstep,le',sr',hvr,fr'⟩:=exec_op (r:=r) ho hco hr.1 (hr.rg (ts_lt hco)) hg sr hv
   refine hstep _ _ ?_
   have:=ih.1 w0 g0 ws H0 g' w' (a.put d u) n ops mu is' r hrest (ck.mono le') sr' (hr.put (by obtain ⟨_,_,_,_,e,_,h5⟩:=compO_inv hco;cases e;exact h5) le' hvr) (le.trans le') (fr.trans fr')
   rwa [put_df,updo_ne (compO_dn hco)] at this
  ·obtain ⟨x,l',ord',oper,rfl,hxo,h3,hh,h4⟩:=its_cons h1 h2
   have hxd:x.o.d=d:=by rw [hxo]
   cases he:x.early with
   | true =>
    have:=hd.take_op hh he (b:=b) (by rw [hxo]) (by rw [hxo];exact hg) hv
    rw [hxd] at this
    exact ih.2 w0 n ops mu df mk g0 ws H0 _ L g a w ord' l' r fuel ck h4 h3 this hl
   | false =>
    refine drawn_wait (Tl:=fun R' H2=>R'=updo R d v∧H2=H') hh he (compIts_all ord pre _ h1) (compIts_beh ord' _ l' h4) ?_ ?_ fuel L g a w hl hd
    ·rintro R' H' ⟨rfl,rfl⟩ fuel L' g' a' w' hL hd'
     exact ih.2 w0 n ops mu df mk g0 ws H0 _ L' g' a' w' ord' l' r fuel (ckd hd hd' ck) h4 h3 hd' hL
    ·intro L2 g2 a2 w2 hd2 hp K hK
     have ck2:CkAll P g2:=ckd hd hd2 ck
     have hco:=hh.co
     have hrg:=hd2.ready_regs hh hp
     have hst:=hd2.stays hh he hp (H':=H') (by rw [hxo];exact hs)
     rw [hxo] at hco hrg
     obtain ⟨u,w',g',hstep,le',sr',hvr,fr'⟩:=exec_op (r:=r) hh.ho hco hd2.tsz hrg hg hd2.sr hv
     refine hstep _ _ (hK _ _ g' _ w' ⟨rfl,rfl⟩ ?_)
     have:=hd2.both hh he hp le' sr' hvr fr' hst
     rwa [hxd] at this
 | @call d f as gd s l R H Q M hg _ hs h2 ih1 ih2 =>
  refine ⟨fun w0 g0 ws H0 g w a n ops mu is r hc ck sr hr le fr=>?_,fun w0 n ops mu df mk g0 ws H0 pre L g a w ord its r fuel ck h1 h2 hd hl=>?_⟩
  ·obtain ⟨i,is',oper,rfl,ho,hco,hrest⟩:=compSeq_cons hc
   rw [wpOpsIn_cons]
   refine exec_call (r:=r) ho hco hr.1 (hr.rg (ts_lt hco)) hg (fun args hv=>ih1 w0 g w args ck sr hv) fun u w' g' H' t hM le' sr' hvr fr'=>?_
   have:=(ih2 t H' hM).1 w0 g0 ws H0 g' w' (a.put d u) n ops mu is' r hrest (ck.mono le') sr' (hr.put (by obtain ⟨_,_,_,_,e,_,h5⟩:=compO_inv hco;cases e;exact h5) le' hvr) (le.trans le') (fr.trans fr')
   rwa [put_df,updo_ne (compO_dn hco)] at this
  ·obtain ⟨x,l',ord',oper,rfl,hxo,h3,hh,h4⟩:=its_cons h1 h2
   have hxd:x.o.d=d:=by rw [hxo]
   cases he:x.early with
   | true=>exact absurd (by rw [hxo];rfl) (hh.kl he).1
   | false =>
    refine drawn_wait (Tl:=fun R' H2=>∃ v,M (.val v) H2∧R'=updo R d v) hh he (compIts_all ord pre _ h1) (compIts_beh ord' _ l' h4) ?_ ?_ fuel L g a w hl hd
    ·rintro R' H' ⟨v,hM,rfl⟩ fuel L' g' a' w' hL hd'
     exact (ih2 v H' hM).2 w0 n ops mu df mk g0 ws H0 _ L' g' a' w' ord' l' r fuel (ckd hd hd' ck) h4 h3 hd' hL
    ·intro L2 g2 a2 w2 hd2 hp K hK
     have ck2:CkAll P g2:=ckd hd hd2 ck
     have hco:=hh.co
     have hrg:=hd2.ready_regs hh hp
     rw [hxo] at hco hrg
     refine exec_call (r:=r) hh.ho hco hd2.tsz hrg hg (fun args hv=>ih1 w0 g2 w2 args ck2 hd2.sr hv) fun u w' g' H' t hM le' sr' hvr fr'=>hK _ H' g' _ w' ⟨t,hM,rfl⟩ ?_
     have hst:=hd2.stays hh he hp (H':=H') (by rw [hxo];exact hs t H' hM)
     have:=hd2.both hh he hp le' sr' hvr fr' hst
     rwa [hxd] at this
 | @callv d xx f cs as gd s l R H Q M hg hf _ hs h2 ih1 ih2 =>
  refine ⟨fun w0 g0 ws H0 g w a n ops mu is r hc ck sr hr le fr=>?_,fun w0 n ops mu df mk g0 ws H0 pre L g a w ord its r fuel ck h1 h2 hd hl=>?_⟩
  ·obtain ⟨i,is',oper,rfl,ho,hco,hrest⟩:=compSeq_cons hc
   rw [wpOpsIn_cons]
   refine exec_callv (r:=r) ho hco hr.1 (hr.rg (ts_lt hco)) hg hf (fun args hv=>ih1 w0 g w args ck sr hv) fun u w' g' H' t hM le' sr' hvr fr'=>?_
   have:=(ih2 t H' hM).1 w0 g0 ws H0 g' w' (a.put d u) n ops mu is' r hrest (ck.mono le') sr' (hr.put (by obtain ⟨_,_,_,_,e,_,h5⟩:=compO_inv hco;cases e;exact h5) le' hvr) (le.trans le') (fr.trans fr')
   rwa [put_df,updo_ne (compO_dn hco)] at this
  ·obtain ⟨x,l',ord',oper,rfl,hxo,h3,hh,h4⟩:=its_cons h1 h2
   have hxd:x.o.d=d:=by rw [hxo]
   cases he:x.early with
   | true=>exact absurd (by rw [hxo];rfl) (hh.kl he).1
   | false =>
    refine drawn_wait (Tl:=fun R' H2=>∃ v,M (.val v) H2∧R'=updo R d v) hh he (compIts_all ord pre _ h1) (compIts_beh ord' _ l' h4) ?_ ?_ fuel L g a w hl hd
    ·rintro R' H' ⟨v,hM,rfl⟩ fuel L' g' a' w' hL hd'
     exact (ih2 v H' hM).2 w0 n ops mu df mk g0 ws H0 _ L' g' a' w' ord' l' r fuel (ckd hd hd' ck) h4 h3 hd' hL
    ·intro L2 g2 a2 w2 hd2 hp K hK
     have ck2:CkAll P g2:=ckd hd hd2 ck
     have hco:=hh.co
     have hrg:=hd2.ready_regs hh hp
     rw [hxo] at hco hrg
     refine exec_callv (r:=r) hh.ho hco hd2.tsz hrg hg hf (fun args hv=>ih1 w0 g2 w2 args ck2 hd2.sr hv) fun u w' g' H' t hM le' sr' hvr fr'=>hK _ H' g' _ w' ⟨t,hM,rfl⟩ ?_
     have hst:=hd2.stays hh he hp (H':=H') (by rw [hxo];exact hs t H' hM)
     have:=hd2.both hh he hp le' sr' hvr fr' hst
     rwa [hxd] at this
 | @yld d xx b as gd s l R H Q m R0 ps asg body M1 M hg hf hb hn _ h1' _ h2' hs3 _ hs4 _ ih1 ih2 ih3 ih4 =>
  refine ⟨fun w0 g0 ws H0 g w a n ops mu is r hc ck sr hr le fr=>?_,fun w0 n ops mu df mk g0 ws H0 pre L g a w ord its r fuel ck h1 h2 hd hl=>?_⟩
  ·obtain ⟨i,is',oper,rfl,ho,hco,hrest⟩:=compSeq_cons hc
   rw [wpOpsIn_cons]
   refine exec_yld (r:=r) ho hco hr.1 (hr.rg (ts_lt hco)) hg hf hb hn ck sr ih1 h1' ih2 h2' fun u w' g' H' t hout le' sr' hvr fr'=>?_
   have hput:=hr.put (d:=d) (by obtain ⟨_,_,_,_,e,_,h5⟩:=compO_inv hco;cases e;exact h5) le' hvr
   rcases hout with ⟨R',H2,hM,rfl,rfl⟩ | ⟨e,R',H2,hM,hne,rfl,rfl⟩
   ·have:=(ih3 R' H2 hM).1 w0 g0 ws H0 g' w' (a.put d u) n ops mu is' r hrest (ck.mono le') sr' hput (le.trans le') (fr.trans fr')
    rwa [put_df,updo_ne (compO_dn hco)] at this
   ·have:=(ih4 e R' H2 hM hne).1 w0 g0 ws H0 g' w' (a.put d u) n ops mu is' r hrest (ck.mono le') sr' hput (le.trans le') (fr.trans fr')
    rwa [put_df,updo_ne (compO_dn hco)] at this
  ·obtain ⟨x,l',ord',oper,rfl,hxo,h3,hh,h4⟩:=its_cons h1 h2
   have hxd:x.o.d=d:=by rw [hxo]
   cases he:x.early with
   | true=>exact absurd (by rw [hxo];rfl) (hh.kl he).1
   | false =>
    refine drawn_wait (Tl:=fun R' H'=>(∃ R2 H2,M (.ex .normal R2) H2∧R'=updo R d (.bool true)∧H'=H2.set b (.loop .ready none m R0 ps asg body))∨(∃ e R2 H2,M (.ex e R2) H2∧e≠.normal∧R'=updo R d (.bool false)∧H'=H2.set b (.loop .done (some e) m R0 ps asg body)))
     hh he (compIts_all ord pre _ h1) (compIts_beh ord' _ l' h4) ?_ ?_ fuel L g a w hl hd
    ·rintro R' H' (⟨R2,H2,hM,rfl,rfl⟩ | ⟨e,R2,H2,hM,hne,rfl,rfl⟩) fuel L' g' a' w' hL hd'
     ·exact (ih3 R2 H2 hM).2 w0 n ops mu df mk g0 ws H0 _ L' g' a' w' ord' l' r fuel (ckd hd hd' ck) h4 h3 hd' hL
     ·exact (ih4 e R2 H2 hM hne).2 w0 n ops mu df mk g0 ws H0 _ L' g' a' w' ord' l' r fuel (ckd hd hd' ck) h4 h3 hd' hL
    ·intro L2 g2 a2 w2 hd2 hp K hK
     have ck2:CkAll P g2:=ckd hd hd2 ck
     have hco:=hh.co
     have hrg:=hd2.ready_regs hh hp
     rw [hxo] at hco hrg
     refine exec_yld (r:=r) hh.ho hco hd2.tsz hrg hg hf hb hn ck2 hd2.sr ih1 h1' ih2 h2' fun u w' g' H' t hout le' sr' hvr fr'=>?_
     have hb2:∀ (hs:stable R H' s),Dr P n ops mu w0 df mk g0 ws H0 (pre++[x]) (L2.setIfInBounds x.i true) g' (updo R d t) H' (a2.put d u) w':=fun hs=>by
      have hst:=hd2.stays hh he hp (H':=H') (by rw [hxo];exact hs)
      have:=hd2.both hh he hp le' sr' hvr fr' hst
      rwa [hxd] at this
     rcases hout with ⟨R',H2,hM,rfl,rfl⟩ | ⟨e,R',H2,hM,hne,rfl,rfl⟩
     ·exact hK _ _ g' _ w' (.inl ⟨R',H2,hM,rfl,rfl⟩) (hb2 (hs3 R' H2 hM))
     ·exact hK _ _ g' _ w' (.inr ⟨e,R',H2,hM,hne,rfl,rfl⟩) (hb2 (hs4 e R' H2 hM hne))
 | @nils d neg c xx yy s l R H Q hs _ hx hy hc ih =>
  subst hc
  subst hs
  refine ⟨fun w0 g0 ws H0 g w a n ops mu is r hc ck sr hr le fr=>?_,fun w0 n ops mu df mk g0 ws H0 pre L g a w ord its r fuel ck h1 h2 hd hl=>?_⟩
  ·obtain ⟨i,is',oper,rfl,ho,hco,hrest⟩:=compSeq_cons hc
   rw [wpOpsIn_cons]
   obtain ⟨b,hstep⟩:=exec_nils (r:=r) ho hco hr.1 (hr.rg (ts_lt hco)) rfl hx hy
   refine hstep _ _ ?_
   have:=(ih b).1 w0 g0 ws H0 g w (a.put d (.bool b)) n ops mu is' r hrest ck sr (hr.put (by obtain ⟨_,_,_,_,e,_,h5⟩:=compO_inv hco;cases e;exact h5) (.refl _ _) (.bool b)) le fr
   rwa [put_df,updo_ne (compO_dn hco)] at this
  ·obtain ⟨x,l',ord',oper,rfl,hxo,h3,hh,h4⟩:=its_cons h1 h2
   have hxd:x.o.d=d:=by rw [hxo]
   cases he:x.early with
   | true =>
    have:=(hh.kl he).1
    rw [hxo] at this
    exact absurd (by cases d <;> rfl) this
   | false =>
    refine drawn_wait (Tl:=fun R' H2=>∃ b:Bool,R'=updo R d (.bool b)∧H2=H) hh he (compIts_all ord pre _ h1) (compIts_beh ord' _ l' h4) ?_ ?_ fuel L g a w hl hd
    ·rintro R' H' ⟨b,rfl,rfl⟩ fuel L' g' a' w' hL hd'
     exact (ih b).2 w0 n ops mu df mk g0 ws H0 _ L' g' a' w' ord' l' r fuel (ckd hd hd' ck) h4 h3 hd' hL
    ·intro L2 g2 a2 w2 hd2 hp K hK
     have ck2:CkAll P g2:=ckd hd hd2 ck
     have hco:=hh.co
     have hrg:=hd2.ready_regs hh hp
     rw [hxo] at hco hrg
     obtain ⟨b,hstep⟩:=exec_nils (r:=r) hh.ho hco hd2.tsz hrg rfl hx hy
     refine hstep _ _ (hK _ H g2 _ w2 ⟨b,rfl,rfl⟩ ?_)
     have:=hd2.both hh he hp (.refl _ _) hd2.sr (.bool b) (.refl _ _) fun _ _ _ _ _ _ _ _ _ e=>e
     rwa [hxd] at this
 | @nxt d xx gd s l R H Q b bi es ix cur hg hx hb hs _ ih =>
  refine ⟨fun w0 g0 ws H0 g w a n ops mu is r hc ck sr hr le fr=>?_,fun w0 n ops mu df mk g0 ws H0 pre L g a w ord its r fuel ck h1 h2 hd hl=>?_⟩
  ·obtain ⟨i,is',oper,rfl,ho,hco,hrest⟩:=compSeq_cons hc
   rw [wpOpsIn_cons]
   obtain ⟨t,H',u,w',g',hM,hstep,le',sr',hvr,fr'⟩:=exec_nxt (r:=r) ho hco hr.1 (hr.rg (ts_lt hco)) hg sr hx hb
   refine hstep _ _ ?_
   have:=(ih t H' hM).1 w0 g0 ws H0 g' w' (a.put d u) n ops mu is' r hrest (ck.mono le') sr' (hr.put (by obtain ⟨_,_,_,_,e,_,h5⟩:=compO_inv hco;cases e;exact h5) le' hvr) (le.trans le') (fr.trans fr')
   rwa [put_df,updo_ne (compO_dn hco)] at this
  ·obtain ⟨x,l',ord',oper,rfl,hxo,h3,hh,h4⟩:=its_cons h1 h2
   have hxd:x.o.d=d:=by rw [hxo]
   cases he:x.early with
   | true =>
    have:=(hh.kl he).1
    rw [hxo] at this
    exact absurd (by cases d <;> rfl) this
   | false =>
    refine drawn_wait (Tl:=fun R' H2=>∃ v,NxtTo H b bi es ix v H2∧R'=updo R d v) hh he (compIts_all ord pre _ h1) (compIts_beh ord' _ l' h4) ?_ ?_ fuel L g a w hl hd
    ·rintro R' H' ⟨v,hM,rfl⟩ fuel L' g' a' w' hL hd'
     exact (ih v H' hM).2 w0 n ops mu df mk g0 ws H0 _ L' g' a' w' ord' l' r fuel (ckd hd hd' ck) h4 h3 hd' hL
    ·intro L2 g2 a2 w2 hd2 hp K hK
     have ck2:CkAll P g2:=ckd hd hd2 ck
     have hco:=hh.co
     have hrg:=hd2.ready_regs hh hp
     rw [hxo] at hco hrg
     obtain ⟨t,H',u,w',g',hM,hstep,le',sr',hvr,fr'⟩:=exec_nxt (r:=r) hh.ho hco hd2.tsz hrg hg hd2.sr hx hb
     refine hstep _ _ (hK _ H' g' _ w' ⟨t,hM,rfl⟩ ?_)
     have hst:=hd2.stays hh he hp (H':=H') (by rw [hxo];exact hs t H' hM)
     have:=hd2.both hh he hp le' sr' hvr fr' hst
     rwa [hxd] at this
 | @shr f as H Q M _ h2 ih =>
  intro w0 g w args ck sr hv
  obtain ⟨hcal,hc⟩:=ih w0 g w args ck sr hv
  refine ⟨hcal,hc.mono fun e w3 ⟨v,t,g3,H3,he,hM,le3,sr3,hvr,fr3⟩=>?_⟩
  obtain ⟨t',b,cs,k,ht,hin,hb,hq⟩:=h2 _ _ hM
  cases ht
  have hφ:∃ x,g3.φ b=some x:=by
   cases hvr with
   | msl h=>simp only [mslIn] at hin;subst hin;exact ⟨_,h⟩
   | tup hl h2 =>
    obtain ⟨off,len,n,hm⟩:=hin
    obtain ⟨i,hi⟩:=List.mem_iff_getElem?.1 hm
    have hlt:=(List.getElem?_eq_some_iff.1 hi).1
    obtain ⟨u,hu⟩:∃ u,(Array.mk _)[i]?=some u:=⟨_,Array.getElem?_eq_getElem (Nat.lt_of_lt_of_eq hlt hl.symm)⟩
    have:=h2 i _ _ hi hu
    cases this with
    | msl h=>exact ⟨_,h⟩
   | _=>exact hin.elim
  obtain ⟨sr4,fr4⟩:=sr3.shrink k hb hφ
  exact ⟨v,_,g3,_,he,hq,le3,sr4,hvr,fr3.trans fr4⟩
 | @fnr f as H Q fn M hf hn _ h2 ih =>
  intro w0 g w args ck sr hv
  obtain ⟨an,hfn⟩:=hE.fn f fn hf
  obtain ⟨F,code,res,body,hF,hb,hres,hcc,hcal,hsz,hlt,rfl⟩:=compFn_inv hfn
  refine ⟨hcal,callsIn_of_wp_marks hF hb trivial ?_⟩
  have hreg:=enter_regs (F:=F) hv hn hsz
  refine wpIn_mono (ih w0 g w _ F.ntmps an true code none hcc (fun _=>rfl) ck sr hreg).1 fun e a' w' hpost=>?_
  obtain ⟨ex,R',g',H',e1,hm,le,sr',hr',fr,hmk,_⟩:=hpost
  obtain ⟨R2,bs,hex,hms,hnd,hdfr,v0,hv0,hq⟩:=h2 _ _ hm
  have hmk0:Mk g (regs0 as F.ntmps) []:=⟨[],by simp only [regs0];rw [List.getD_eq_getElem?_getD,List.getElem?_eq_none (by simp only at hn;omega)];rfl,.nil⟩
  obtain ⟨ts,hts,hmo⟩:=hmk hmk0
  have hfin:R2=R'→LeavesInM (Fw none) 0 P F a'.tmps (CallR w0 g w H fun v H'=>Q (.val v) H') a'.defers .returning w':=by
   rintro rfl
   simp only at hms hq hv0
   rw [hts] at hms
   refine leaves_marks ts a'.defers bs g' H' w' R2 a' _ hmo hms hnd hdfr sr' hr' (fun w2 v le2 sr2 _ fr2 _ hvr=>⟨v,_,g',_,rfl,hq,le.trans le2,sr2,hvr,fr.trans fr2⟩) hv0 fun g w H sr hr ht=>results_ok (P:=P) sr hres hlt hr ht
  cases e <;> simp only [exOf,Option.some.injEq,reduceCtorEq] at e1 <;> subst e1
  case normal=>rcases hex with hex | hex <;> cases hex;exact hfin rfl
  case exit id=>rcases hex with hex | hex <;> cases hex
  case ret=>rcases hex with hex | hex <;> cases hex;exact hfin rfl
 | @fn f as H Q fn M hf hnr hn _ h2 ih =>
  intro w0 g w args ck sr hv
  obtain ⟨an,hfn⟩:=hE.fn f fn hf
  obtain ⟨F,code,res,body,hF,hb,hres,hcc,hcal,hsz,hlt,rfl⟩:=compFn_inv hfn
  refine ⟨hcal,callsIn_of_wp hF hb trivial ?_⟩
  have hreg:=enter_regs (F:=F) hv hn hsz
  refine wpIn_mono (ih w0 g w _ F.ntmps an true code none hcc (fun _=>rfl) ck sr hreg).1 fun e a' w' hpost=>?_
  obtain ⟨ex,R',g',H',e1,hm,le,sr',hr',fr,_,hdf⟩:=hpost
  obtain ⟨R2,hex,v0,hv0,hq⟩:=h2 _ _ hm
  have hfin:∀ (R2:Regs),R2=R'→resT R2 H' res=some v0→a'.defers=[]∧∃ v,(results F a'.tmps).run P w'=.ok v w'∧CallR w0 g w H (fun v H'=>Q (.val v) H') (.returned v) w':=by
   rintro R2 rfl hv0
   obtain ⟨v,hrun,hvr⟩:=results_ok (P:=P) sr' hres hlt hr' hv0
   exact ⟨(hdf hnr).2,v,hrun,v,_,g',H',rfl,hq,le,sr',hvr,fr⟩
  cases e <;> simp only [exOf,Option.some.injEq,reduceCtorEq] at e1 <;> subst e1
  case normal=>rcases hex with hex | hex <;> cases hex;exact hfin _ rfl hv0
  case exit id=>rcases hex with hex | hex <;> cases hex
  case ret=>rcases hex with hex | hex <;> cases hex;exact hfin _ rfl hv0
 | @revl f as H Q b off len n i M hi _ h2 ih =>
  intro w0 g w args ck sr hv
  have hlt:=(List.getElem?_eq_some_iff.1 hi).1
  have hl:=hv.1
  have hva:=hv.2 i _ _ hi (List.getElem?_eq_getElem (by omega))
  have hex:∃ c,len≤c∧VR g w (.mslc b off len n c) (args[i]'(by omega)):=by
   generalize args[i]'(by omega)=u at hva
   cases hva with
   | msl h hc hq=>exact ⟨_,hc,.mslc h hc hq⟩
  obtain ⟨c,hc,hvc⟩:=hex
  have hv':VRs g w (as.set i (.mslc b off len n c)) args:=⟨by simp [hl],fun j t v ha hb=>by
   by_cases e:j=i
   ·subst e
    rw [List.getElem?_set_self hlt] at ha
    cases ha
    rw [List.getElem?_eq_getElem (by omega)] at hb
    cases hb
    exact hvc
   ·rw [List.getElem?_set_ne (Ne.symm e)] at ha
    exact hv.2 j t v ha hb⟩
  obtain ⟨hcal,hcc⟩:=ih c hc w0 g w args ck sr hv'
  refine ⟨hcal,hcc.mono fun e w3 ⟨v,t,g3,H3,he,hM,le3,sr3,hvr,fr3⟩=>?_⟩
  exact ⟨v,_,g3,H3,he,h2 _ _ hM,le3,sr3,hvr.fgt,fr3⟩
 | @frz f as H Q M _ h2 ih =>
  intro w0 g w args ck sr hv
  obtain ⟨hcal,hc⟩:=ih w0 g w args ck sr hv
  refine ⟨hcal,hc.mono fun e w3 ⟨v,t,g3,H3,he,hM,le3,sr3,hvr,fr3⟩=>?_⟩
  obtain ⟨t',b,cs,ht,hin,hb,hq⟩:=h2 _ _ hM
  cases ht
  have hφ:∃ x,g3.φ b=some x:=by
   cases hvr with
   | msl h=>simp only [mslIn] at hin;subst hin;exact ⟨_,h⟩
   | tup hl h2 =>
    obtain ⟨off,len,n,hm⟩:=hin
    obtain ⟨i,hi⟩:=List.mem_iff_getElem?.1 hm
    have hlt:=(List.getElem?_eq_some_iff.1 hi).1
    obtain ⟨u,hu⟩:∃ u,(Array.mk _)[i]?=some u:=⟨_,Array.getElem?_eq_getElem (Nat.lt_of_lt_of_eq hlt hl.symm)⟩
    have:=h2 i _ _ hi hu
    cases this with
    | msl h=>exact ⟨_,h⟩
   | _=>exact hin.elim
  obtain ⟨g4,le4,sr4,fr4,hvr4⟩:=sr3.freeze hb hφ
  exact ⟨v,_,g4,_,he,hq,le3.trans le4,sr4,hvr4 _ _ hvr,fr3.trans fr4⟩
 | @prim f as H Q h =>
  intro w0 g w args ck sr hv
  exact hE.prim f as H _ h w0 g w args sr hv
inductive Sh where
 | int (k:IntKind) | str | bool
 | sl (l:List Sh)
 | ag (l:List Sh)
def shFs (P:Program) (f:TypeId→Option (List Sh)):List Field→Nat→Option (List Sh)
 | [],_=>some []
 | x :: xs,off=>match f x.type with
  | some l=>if x.offset=off∧l.length=P.cellsOf x.type then (shFs P f xs (off+l.length)).map (l++·) else none
  | none=>none
def arrFs (k:Nat) (e:TypeId) (c:Nat):List Field:=(List.range k).map fun i=>{ (default:Field) with type:=e,offset:=i*c }
def shOf (P:Program):Nat→TypeId→Option (List Sh)
 | 0,_=>none
 | n+1,t=>match P.underlying t with
  | some .bool=>some [.bool]
  | some (.int k)=>some [.int k]
  | some .string=>some [.str]
  | some (.slice e)=>match shOf P n e with
   | some l=>if l.length=P.cellsOf e∧l.length≠0 then some [.sl l] else none
   | none=>none
  | some (.struct fs)=>match shFs P (shOf P n) fs.toList 0 with
   | some l=>if l.length=P.cellsOf t then some l else none
   | none=>none
  | some (.array k e)=>match shFs P (shOf P n) (arrFs k e (P.cellsOf e)) 0 with
   | some l=>if l.length=P.cellsOf t then some l else none
   | none=>none
  | _=>none
inductive HasSh (B:Nat):Sh→T→Prop
 | int {k n} (h:(Lit.int k n).wf=true):HasSh B (.int k) (.int k n)
 | bool (b):HasSh B .bool (.bool b)
 | str {s:ByteArray} (h:s.size≤maxLen) (hB:s.size≤B):HasSh B .str (.str s)
 | nil {l}:HasSh B (.sl l) (.sl .nil [])
 | sl {l es} (hl:es.length≤maxLen) (hB:es.length≤B) (h0:∀ c∈es,c.length=l.length) (h:∀ c∈es,∀ (j:Nat) (s:Sh) (t:T),l[j]?=some s→c[j]?=some t→HasSh B s t):HasSh B (.sl l) (.sl .arg es)
 | ag {l cs} (hl:cs.length=l.length) (h:∀ (j:Nat) (s:Sh) (t:T),l[j]?=some s→cs[j]?=some t→HasSh B s t):HasSh B (.ag l) (.agg cs)
mutual
def T.bk:T→Nat
 | .str s=>s.size+1
 | .sl _ es=>bkE es+1
 | _=>1
def bkL:List T→Nat
 | []=>0
 | t :: ts=>t.bk+bkL ts
def bkE:List (List T)→Nat
 | []=>0
 | c :: es=>bkL c+bkE es
end
theorem bkL_app (a b:List T):bkL (a++b)=bkL a+bkL b:=by
 induction a with
 | nil=>simp [bkL]
 | cons t a ih=>simp only [List.cons_append,bkL,ih];omega
mutual
def bulkW {H:Type}:DataW H→Nat
 | .lit (.string bytes)=>bytes.length+1
 | .lit _=>1
 | .nil=>1
 | .ptr d=>bulkW d+1
 | .slice elems spare=>bulkAllW elems+bulkAllW spare+1
 | .agg parts=>bulkAllW parts+1
 | .iface _ d=>bulkW d+1
 | .map entries=>bulkEntriesW entries+1
 | .held _=>1
def bulkAllW {H:Type}:List (DataW H)→Nat
 | []=>0
 | d :: r=>bulkW d+bulkAllW r
def bulkEntriesW {H:Type}:List (Lit × DataW H)→Nat
 | []=>0
 | x :: r=>bulkEntryW x+bulkEntriesW r
def bulkEntryW {H:Type}:Lit × DataW H→Nat
 | (.string bytes,d)=>bytes.length+bulkW d+1
 | (_,d)=>bulkW d+1
end
theorem bulk_one {H:Type} (d:DataW H):1≤bulkW d:=by
 cases d with
 | lit l=>cases l <;> simp [bulkW]
 | _=>simp [bulkW]
theorem bulk_part {H:Type} {d:DataW H} {l:List (DataW H)} (h:d∈l):bulkW d≤bulkAllW l:=by
 induction l with
 | nil=>cases h
 | cons x r ih =>
  simp only [bulkAllW]
  rcases List.mem_cons.1 h with rfl | h
  ·omega
  ·have:=ih h;omega
theorem bkE_le {H:Type}:∀ (es:List (List T)) (ds:List (DataW H)),es.length≤ds.length→(∀ (i:Nat) c d,es[i]?=some c→ds[i]?=some d→bkL c≤bulkW d)→bkE es≤bulkAllW ds
 | [],_,_,_=>by simp [bkE]
 | c :: es,[],h,_=>by simp at h
 | c :: es,d :: ds,h,hk=>by
  have h1:=hk 0 c d rfl rfl
  have h2:=bkE_le es ds (by simpa using h) fun i c d a b=>hk (i+1) c d (by simpa using a) (by simpa using b)
  simp only [bkE,bulkAllW];omega
theorem bulk_len {H:Type} (l:List (DataW H)):l.length≤bulkAllW l:=by
 induction l with
 | nil=>simp
 | cons x r ih=>have:=bulk_one x;simp only [bulkAllW,List.length_cons];omega
def g0 (P:Program) (W:World):Ctx:=⟨fun _=>none,fun r _=>if r<W.heap.size then .imm else .free,fun _ _=>none,fun n c k=>∃ an,compC P n an false k=some c⟩
theorem sr0 (P:Program) (W:World):SR W (g0 P W) [] W where
 size:=Nat.le_refl _
 old _ _:=rfl
 imm0 r o h:=by simp [g0,h]
 fresh r o h:=by simp only [g0];rw [if_neg (by omega)]
 dom b x h:=by simp [g0] at h
 domt t e x h:=by simp [g0] at h
 blk b x h:=by simp at h
 frz r j h:=frozen_none h
 env:=⟨rfl,rfl⟩
theorem ck0 (P:Program) (W:World):CkAll P (g0 P W):=fun _ _ _=>Iff.rfl
theorem list_of {α:Type} {Q:Nat→α→Prop}:∀ (n:Nat),(∀ i,i<n→∃ c,Q i c)→∃ l:List α,l.length=n∧∀ (i:Nat) (c:α),l[i]?=some c→Q i c
 | 0,_=>⟨[],rfl,by simp⟩
 | n+1,h=>by
  obtain ⟨l,hl,hq⟩:=list_of n fun i hi=>h i (by omega)
  obtain ⟨c,hc⟩:=h n (by omega)
  refine ⟨l++[c],by simp [hl],fun i d hd=>?_⟩
  by_cases hi:i<n
  ·rw [List.getElem?_append_left (by omega)] at hd;exact hq i d hd
  ·rw [List.getElem?_append_right (by omega)] at hd
   have:i=n:=by
    have:=(List.getElem?_eq_some_iff.1 hd).1;simp at this;omega
   subst this;simp [hl] at hd;subst hd;exact hc
section
variable {H:Type} {enc:TypeId × Value→H} {P:Program} {W:World} {held:Bool} {B:Nat}
theorem cells_at {a:Addr} {n:Nat} {cs:List Value} (h:W.cells? 0 a n=some cs):cs.length=n∧∀ (j:Nat) (v:Value),cs[j]?=some v→W.cell? (a.add j)=some v:=by
 unfold World.cells? at h
 rw [if_pos (Nat.zero_le _)] at h
 have key:∀ (n:Nat) (cs:List Value),(List.range n).mapM (fun i=>W.cell? (a.add i))=some cs→cs.length=n∧∀ (j:Nat) (v:Value),cs[j]?=some v→W.cell? (a.add j)=some v:=by
  intro n
  induction n with
  | zero=>intro cs h;simp at h;subst h;simp
  | succ n ih =>
   intro cs h
   rw [List.range_succ,List.mapM_append] at h
   cases h1:(List.range n).mapM (fun i=>W.cell? (a.add i)) with
   | none=>simp [h1] at h
   | some l =>
    cases h2:W.cell? (a.add n) with
    | none=>simp [h1,h2] at h
    | some v =>
     simp [h1,h2] at h
     subst h
     obtain ⟨k1,k2⟩:=ih l h1
     refine ⟨by simp [k1],fun j u hj=>?_⟩
     by_cases hjn:j<n
     ·rw [List.getElem?_append_left (by omega)] at hj;exact k2 j u hj
     ·rw [List.getElem?_append_right (by omega)] at hj
      have:j=n:=by
       have:=(List.getElem?_eq_some_iff.1 hj).1;simp at this;omega
      subst this;simp [k1] at hj;subst hj;exact h2
 exact key n cs h
def Reads (enc:TypeId × Value→H) (P:Program) (W:World) (held:Bool) (B:Nat) (t:TypeId) (l:List Sh):Prop :=
 ∀ fuel cs d ps,DataW.trod enc P W 0 (fun _=>true) held fuel t cs=some (d,ps)→bulkW d≤B→cs.length=l.length∧∃ ts:List T,VRs (g0 P W) W ts cs∧ones ts∧(∀ (j:Nat) (s:Sh) (t:T),l[j]?=some s→ts[j]?=some t→HasSh B s t)∧bkL ts≤bulkW d
theorem reads_fields {f:TypeId→Option (List Sh)} {n:Nat} {cs:List Value}:∀ (fs:List Field) (off:Nat) (l:List Sh) (xs:List (DataW H × List MemPlace)),shFs P f fs off=some l→(∀ x∈fs,∀ l',f x.type=some l'→Reads enc P W held B x.type l') →
  xs.length=fs.length→(∀ (i:Nat) (x:Field),fs[i]?=some x→DataW.trod enc P W 0 (fun _=>true) held n x.type ((cs.drop x.offset).take (P.cellsOf x.type))=xs[i]?)→(∀ x∈xs,bulkW x.1≤B)→off+l.length≤cs.length →
  ∃ ts:List T,VRs (g0 P W) W ts ((cs.drop off).take l.length)∧ones ts∧(∀ (j:Nat) (s:Sh) (t:T),l[j]?=some s→ts[j]?=some t→HasSh B s t)∧bkL ts≤bulkAllW (xs.map (·.1))
 | [],off,l,xs,h,_,_,_,_,_=>by
  simp only [shFs,Option.some.injEq] at h;subst h
  exact ⟨[],by simpa using VRs.nil,by simp [ones],by simp,by simp [bkL]⟩
 | x :: fs,off,l,xs,h,hr,hl,ht,hb,hle=>by
  simp only [shFs] at h
  split at h
  ·rename_i l1 h1
   split at h
   ·rename_i hc
    simp only [Option.map_eq_some_iff] at h
    obtain ⟨l2,h2,rfl⟩:=h
    cases xs with
    | nil=>simp at hl
    | cons y xs =>
     have t0:=ht 0 x rfl
     simp only [List.getElem?_cons_zero] at t0
     obtain ⟨d,ps⟩:=y
     obtain ⟨a1,ts1,a2,a3,a4,a5⟩:=hr x (by simp) l1 h1 n _ d ps t0 (hb (d,ps) (by simp))
     obtain ⟨ts2,b2,b3,b4,b5⟩:=reads_fields fs (off+l1.length) l2 xs h2 (fun z hz=>hr z (by simp [hz])) (by simpa using hl) (fun i z hz=>by have:=ht (i+1) z (by simpa using hz);simpa using this) (fun z hz=>hb z (by simp [hz])) (by simp at hle;omega)
     have e1:(cs.drop off).take (l1++l2).length=(cs.drop x.offset).take (P.cellsOf x.type)++(cs.drop (off+l1.length)).take l2.length:=by
      rw [hc.1,← hc.2,List.length_append,List.take_add,List.drop_drop]
     have hlen1:ts1.length=l1.length:=by rw [a2.1,a1]
     refine ⟨ts1++ts2,by rw [e1];exact a2.append b2,fun t ht=>?_,fun j s t hs ht=>?_,by rw [bkL_app];simp only [List.map_cons,bulkAllW];omega⟩
     ·rcases List.mem_append.1 ht with h | h
      ·exact a3 t h
      ·exact b3 t h
     ·by_cases hj:j<l1.length
      ·rw [List.getElem?_append_left hj] at hs
       rw [List.getElem?_append_left (by omega)] at ht
       exact a4 j s t hs ht
      ·rw [List.getElem?_append_right (by omega)] at hs
       rw [List.getElem?_append_right (by omega),hlen1] at ht
       exact b4 _ s t hs ht
   ·cases h
  ·cases h
theorem imm_of {r o:Nat} {v:Value} (h:W.cell? ⟨r,o,none⟩=some v):Imm (g0 P W) W r o v:=⟨by simp [g0,cell_lt h],h⟩
theorem reads:∀ (n:Nat) (t:TypeId) (l:List Sh),shOf P n t=some l→Reads enc P W held B t l
 | 0,_,_,h=>by simp [shOf] at h
 | n+1,t,l,h=>by
  intro fuel cs d ps hd hb
  simp only [shOf] at h
  split at h
  ·rename_i hu;cases h
   obtain ⟨b,rfl,hx⟩:=DataW.trod_bool hu hd
   exact ⟨rfl,[.bool b],VRs.cons (.bool b) VRs.nil,by simp [ones,T.one],fun j s t hs ht=>by cases j with
    | zero=>simp at hs ht;subst hs;subst ht;exact .bool b
    | succ j=>simp at hs,by have:=bulk_one d;simp only [bkL,T.bk];omega⟩
  ·rename_i k hu;cases h
   obtain ⟨m,rfl,hx,hw⟩:=DataW.trod_int hu hd
   exact ⟨rfl,[.int k m],VRs.cons (.int k m) VRs.nil,by simp [ones,T.one],fun j s t hs ht=>by cases j with
    | zero=>simp at hs ht;subst hs;subst ht;exact .int hw
    | succ j=>simp at hs,by have:=bulk_one d;simp only [bkL,T.bk];omega⟩
  ·rename_i hu;cases h
   obtain ⟨s,rfl,hx,hw⟩:=DataW.trod_string hu hd
   cases hx
   exact ⟨rfl,[.str s],VRs.cons (.str s) VRs.nil,by simp [ones,T.one],fun j s' t hs ht=>by cases j with
    | zero=>simp at hs ht;subst hs;subst ht;exact .str hw (by simp [bulkW] at hb;have:s.data.size=s.size:=rfl;omega)
    | succ j=>simp at hs,by simp only [bkL,T.bk,bulkW];have:s.data.size=s.size:=rfl;simp⟩
  ·rename_i e hu
   split at h
   ·rename_i le he
    split at h
    ·rename_i hc
     cases h
     have ih:=reads n e le he
     rcases DataW.trod_slice hu hd with ⟨rfl,hx⟩ | ⟨a,len,cap,elems,rest,m,_,rfl,hx,_,h1,h2,h3,h4,h5,_⟩
     ·exact ⟨rfl,[.sl .nil []],VRs.cons .slnil VRs.nil,by simp [ones,T.one],fun j s t hs ht=>by cases j with
       | zero=>simp at hs ht;subst hs;subst ht;exact .nil
       | succ j=>simp at hs,by have:=bulk_one d;simp only [bkL,T.bk,bkE];omega⟩
     ·cases hx
      have hbe:∀ x∈elems,bulkW x.1≤B:=fun x hx=>by
       have:=bulk_part (List.mem_map_of_mem (f:=(·.1)) hx);simp only [bulkW] at hb;omega
      have hlB:len≤B:=by
       have:=bulk_len (elems.map (·.1));simp only [bulkW] at hb;simp at this;omega
      have hel:∀ i,i<len→∃ c:List T,c.length=le.length∧∃ us,W.cells? 0 (a.add (i*P.cellsOf e)) (P.cellsOf e)=some us∧VRs (g0 P W) W c us∧ones c∧(∀ (j:Nat) (s:Sh) (t:T),le[j]?=some s→c[j]?=some t→HasSh B s t)∧∀ d,(elems.map (·.1))[i]?=some d→bkL c≤bulkW d:=by
       intro i hi
       have hk:=h4 i hi
       have hi':i<elems.length:=by omega
       rw [List.getElem?_eq_getElem hi'] at hk
       obtain ⟨us,k1,k2⟩:=Option.bind_eq_some_iff.1 hk
       obtain ⟨q1,ts,q2,q3,q4,q5⟩:=ih m us elems[i].1 elems[i].2 k2 (hbe _ (List.getElem_mem hi'))
       exact ⟨ts,by rw [q2.1,q1],us,k1,q2,q3,q4,fun d hd=>by rw [List.getElem?_map,List.getElem?_eq_getElem hi'] at hd;simp only [Option.map_some,Option.some.injEq] at hd;subst hd;exact q5⟩
      obtain ⟨es,he1,he2⟩:=list_of len hel
      have hsh:HasSh B (.sl le) (.sl .arg es):=.sl (by omega) (by omega) (fun c hc=>by
       obtain ⟨i,hi,rfl⟩:=List.getElem_of_mem hc
       exact (he2 i _ (List.getElem?_eq_getElem hi)).1) (fun c hc=>by
       obtain ⟨i,hi,rfl⟩:=List.getElem_of_mem hc
       obtain ⟨_,_,_,_,_,q,_⟩:=he2 i _ (List.getElem?_eq_getElem hi)
       exact q)
      have hvr:VR (g0 P W) W (.sl .arg es) (.slice (some a) len cap):=by
       by_cases hcap:cap=0
       ·have:len=0:=by omega
        subst this;subst hcap
        have:es=[]:=List.eq_nil_of_length_eq_zero he1
        subst this;exact .slarg _
       ·have hspot:a.spot=none:=by
         have hcell:∃ us,W.cells? 0 (a.add (0*P.cellsOf e)) (P.cellsOf e)=some us:=by
          by_cases hl:0<len
          ·obtain ⟨_,_,us,k,_⟩:=hel 0 hl;exact ⟨us,k⟩
          ·have h0:len=0:=by omega
           obtain ⟨k1,k2⟩:=h5 rfl
           have:=k2 0 (by omega)
           have hr:0<rest.length:=by omega
           rw [List.getElem?_eq_getElem hr,h0] at this
           obtain ⟨us,k3,_⟩:=Option.bind_eq_some_iff.1 this
           exact ⟨us,by simpa using k3⟩
         obtain ⟨us,hus⟩:=hcell
         obtain ⟨k1,k2⟩:=cells_at hus
         have hpos:0<us.length:=by omega
         have hc0:=k2 0 us[0] (List.getElem?_eq_getElem hpos)
         unfold World.cell? at hc0
         split at hc0
         ·split at hc0
          ·cases hc0
          ·rename_i hsp;simpa [Addr.add] using hsp
         ·cases hc0
        obtain ⟨r,o,sp⟩:=a
        simp only at hspot;subst hspot
        rw [← he1]
        have hn:∀ c∈es,c.length=le.length:=fun c hc=>by
         obtain ⟨i,hi,rfl⟩:=List.getElem_of_mem hc
         exact (he2 i _ (List.getElem?_eq_getElem hi)).1
        have hcell:∀ (i j:Nat) (c:List T) (t:T),es[i]?=some c→c[j]?=some t→∃ v,W.cell? ⟨r,o+i*le.length+j,none⟩=some v∧VR (g0 P W) W t v∧t.one=true:=by
         intro i j c t hi hj
         obtain ⟨q1,us,q2,q3,q4,_⟩:=he2 i c hi
         obtain ⟨k1,k2⟩:=cells_at q2
         have hju:j<us.length:=by rw [← q3.1];exact (List.getElem?_eq_some_iff.1 hj).1
         refine ⟨us[j],?_,q3.2 j t _ hj (List.getElem?_eq_getElem hju),q4 t (List.mem_of_getElem? hj)⟩
         have:=k2 j us[j] (List.getElem?_eq_getElem hju)
         rw [← hc.1,add_mk,add_mk] at this
         exact this
        refine .sl (n:=le.length) (fun i j=>(W.cell? ⟨r,o+i*le.length+j,none⟩).getD undef) trivial (by omega) hn (fun i j c t hi hj=>?_) (fun i j c t hi hj=>?_)
        ·obtain ⟨v,q1,q2,q3⟩:=hcell i j c t hi hj
         exact ⟨q3,by rw [q1];exact imm_of q1⟩
        ·obtain ⟨v,q1,q2,q3⟩:=hcell i j c t hi hj
         rw [q1];exact q2
      exact ⟨rfl,[.sl .arg es],VRs.cons hvr VRs.nil,by simp [ones,T.one],fun j s t hs ht=>by cases j with
       | zero=>simp at hs ht;subst hs;subst ht;exact hsh
       | succ j=>simp at hs,by
       have hbk:=bkE_le es (elems.map (·.1)) (by simp;omega) fun i c d hc hd=>by
        obtain ⟨_,_,_,_,_,_,q⟩:=he2 i c hc
        exact q d hd
       simp only [bkL,T.bk,bulkW];omega⟩
    ·cases h
   ·cases h
  ·rename_i fs hu
   split at h
   ·rename_i l' hl'
    split at h
    ·rename_i hc
     cases h
     obtain ⟨xs,m,_,hx,k1,k2,k3⟩:=DataW.trod_struct hu hd
     cases hx
     have hbe:∀ x∈xs,bulkW x.1≤B:=fun x hx=>by
      have:=bulk_part (List.mem_map_of_mem (f:=(·.1)) hx);simp only [bulkW] at hb;omega
     obtain ⟨ts,a1,a2,a3,a4⟩:=reads_fields (n:=m) (cs:=cs) fs.toList 0 l xs hl' (fun x _ l2 h2=>reads n x.type l2 h2) (by simpa using k2) (fun i x hi=>k3 i x (by simpa using hi)) hbe (by omega)
     have e1:(cs.drop 0).take l.length=cs:=by rw [List.drop_zero,hc,← k1];simp
     rw [e1] at a1
     exact ⟨by omega,ts,a1,a2,a3,by simp only [bulkW];omega⟩
    ·cases h
   ·cases h
  ·rename_i k e hu
   split at h
   ·rename_i l' hl'
    split at h
    ·rename_i hc
     cases h
     obtain ⟨xs,m,_,hx,k1,k2,k3⟩:=DataW.trod_array hu hd
     cases hx
     have hbe:∀ x∈xs,bulkW x.1≤B:=fun x hx=>by
      have:=bulk_part (List.mem_map_of_mem (f:=(·.1)) hx);simp only [bulkW] at hb;omega
     obtain ⟨ts,a1,a2,a3,a4⟩:=reads_fields (n:=m) (cs:=cs) (arrFs k e (P.cellsOf e)) 0 l xs hl' (fun x hx l2 h2=>by
      obtain ⟨i,_,rfl⟩:=List.mem_map.1 hx;exact reads n e l2 h2) (by rw [k2];simp [arrFs]) (fun i x hi=>by
      simp only [arrFs,List.getElem?_map,Option.map_eq_some_iff] at hi
      obtain ⟨j,hj,rfl⟩:=hi
      obtain ⟨h1,h2⟩:=List.getElem?_eq_some_iff.1 hj
      rw [List.getElem_range] at h2
      subst h2
      exact k3 i (by simpa using h1)) hbe (by omega)
     have e1:(cs.drop 0).take l.length=cs:=by rw [List.drop_zero,hc,← k1];simp
     rw [e1] at a1
     exact ⟨by omega,ts,a1,a2,a3,by simp only [bulkW];omega⟩
    ·cases h
   ·cases h
  ·cases h
def shArg (P:Program) (t:TypeId):Option Sh:=match P.underlying t with
 | some .bool | some (.int _) | some .string | some (.slice _)=>match shOf P 9 t with
  | some [s]=>some s
  | _=>none
 | some (.struct _) | some (.array _ _)=>match shOf P 9 t with
  | some l=>some (.ag l)
  | none=>none
 | _=>none
def shArgs (P:Program):List TypeId→Option (List Sh)
 | []=>some []
 | t :: ts=>match shArg P t,shArgs P ts with
  | some s,some l=>some (s :: l)
  | _,_=>none
inductive HasShs (B:Nat):List Sh→List T→Prop
 | nil:HasShs B [] []
 | cons {s t ss ts} (h:HasSh B s t) (hs:HasShs B ss ts):HasShs B (s :: ss) (t :: ts)
theorem read_arg {base:Nat} {t:TypeId} {s:Sh} {v:Value} {d:DataW H} {p:List MemPlace} (h:shArg P t=some s) (hv:Value.okWide P W .any base t v) (hf:DataW.Trod enc P W 0 (fun _=>true) held t v d p) (hB:bulkW d≤B) :
  ∃ u:T,VR (g0 P W) W u v∧HasSh B s u∧u.bk≤bulkW d:=by
 obtain ⟨fuel,hf⟩:=hf
 have one:(∀ cs,v≠.agg cs)→v.cells.toList=[v]:=by
  intro h;cases v <;> first | rfl | exact absurd rfl (h _)
 have sc:v.cells.toList=[v]→(match shOf P 9 t with | some [s]=>some s | _=>none)=some s→∃ u:T,VR (g0 P W) W u v∧HasSh B s u∧u.bk≤bulkW d:=by
  intro hone h
  split at h
  ·rename_i s' h3
   cases h
   obtain ⟨c1,us,c2,c3,c4,c5⟩:=reads (B:=B) 9 t [s] h3 fuel _ d p hf hB
   rw [hone] at c2
   have hul:us.length=1:=by have:=c2.1;simpa using this
   obtain ⟨u,rfl⟩:∃ u,us=[u]:=by
    cases us with
    | nil=>simp at hul
    | cons u us'=>cases us' with
     | nil=>exact ⟨u,rfl⟩
     | cons _ _=>simp at hul
   exact ⟨u,c2.head,c4 0 s u rfl rfl,by simp only [bkL] at c5;omega⟩
  ·cases h
 have ag:(∃ cs,v=.agg cs)→(match shOf P 9 t with | some l=>some (Sh.ag l) | none=>none)=some s→∃ u:T,VR (g0 P W) W u v∧HasSh B s u∧u.bk≤bulkW d:=by
  rintro ⟨cs,rfl⟩ h
  split at h
  ·rename_i l h3
   cases h
   obtain ⟨c1,us,c2,c3,c4,c5⟩:=reads (B:=B) 9 t l h3 fuel _ d p hf hB
   have hc:(Value.agg cs).cells.toList=cs.toList:=rfl
   rw [hc] at c1 c2
   refine ⟨.agg us,.agg (by have:=c2.1;simpa using this.symm) c3 (fun i t v a b=>c2.2 i t v a (by simpa using b)),.ag (by rw [c2.1,c1]) c4,by have:=bulk_one d;simp only [T.bk];omega⟩
  ·cases h
 simp only [shArg] at h
 split at h
 ·rename_i hu
  exact sc (one (by rintro cs rfl;simp [Value.okWide,hu,Cell.okWide,Cell.ok] at hv)) h
 ·rename_i hu
  exact sc (one (by rintro cs rfl;simp [Value.okWide,hu,Cell.okWide,Cell.ok] at hv)) h
 ·rename_i hu
  exact sc (one (by rintro cs rfl;simp [Value.okWide,hu,Cell.okWide,Cell.ok] at hv)) h
 ·rename_i hu
  exact sc (one (by rintro cs rfl;simp [Value.okWide,hu,Cell.okWide,Cell.ok] at hv)) h
 ·rename_i hu
  exact ag (by cases v <;> first | exact ⟨_,rfl⟩ | simp [Value.okWide,hu] at hv) h
 ·rename_i hu
  exact ag (by cases v <;> first | exact ⟨_,rfl⟩ | simp [Value.okWide,hu] at hv) h
 ·cases h
theorem read_args {base:Nat}:∀ (ts:List TypeId) (shs:List Sh) (args:List Value) (ds:List (DataW H)) (p:List MemPlace),shArgs P ts=some shs→(∀ (j:Nat) t v,ts[j]?=some t→args[j]?=some v→Value.okWide P W .any base t v) →
  DataW.TrodAll enc P W 0 (fun _=>true) held ts args ds p→bulkAllW ds≤B→∃ as:List T,VRs (g0 P W) W as args∧HasShs B shs as∧bkL as≤bulkAllW ds
 | [],shs,args,ds,p,h,_,hA,_=>by
  cases args <;> cases ds <;> simp [DataW.TrodAll] at hA
  simp only [shArgs,Option.some.injEq] at h;subst h
  exact ⟨[],VRs.nil,.nil,by simp [bkL]⟩
 | t :: ts,shs,args,ds,p,h,hval,hA,hB=>by
  cases args with
  | nil=>cases ds <;> simp [DataW.TrodAll] at hA
  | cons v args =>
   cases ds with
   | nil=>simp [DataW.TrodAll] at hA
   | cons d ds =>
    obtain ⟨p,q,hf,h2,_⟩:=hA
    simp only [shArgs] at h
    split at h
    ·rename_i s l h3 h4
     cases h
     simp only [bulkAllW] at hB
     obtain ⟨as,b1,b2,b3⟩:=read_args ts l args ds q h4 (fun j t v a b=>hval (j+1) t v (by simpa using a) (by simpa using b)) h2 (by omega)
     obtain ⟨u,c1,c2,c3⟩:=read_arg (B:=B) (base:=base) (d:=d) (p:=p) h3 (hval 0 t v rfl rfl) hf (by omega)
     refine ⟨u :: as,VRs.cons c1 b1,.cons c2 b2,?_⟩
     show T.bk u+bkL as≤bulkW d+bulkAllW ds
     omega
    ·cases h
end
open Go.ChangeShapes Go.RowKit
section
variable {H:Type} {enc:TypeId × Value→H} {P:Program} {W W':World}
theorem trodAll_carry {sp:Nat→Bool} {held:Bool}:∀ (ts:List TypeId) (vs:List Value) (ds:List (DataW H)) (ps:List MemPlace),DataW.TrodAll enc P W 0 sp held ts vs ds ps→(∀ p∈ps,W.sameAt W' p)→DataW.TrodAll enc P W' 0 sp held ts vs ds ps
 | [],[],[],_,h,_=>h
 | t :: ts,v :: vs,d :: ds,ps,⟨p,q,⟨n,hn⟩,h2,e⟩,hs=>⟨p,q,⟨n,DataW.trod_carry n t _ _ hn (fun x hx=>hs x (by rw [e];exact List.mem_append_left _ hx))⟩,trodAll_carry ts vs ds q h2 (fun x hx=>hs x (by rw [e];exact List.mem_append_right _ hx)),e⟩
 | [],_ :: _,_,_,h,_=>h.elim
 | [],[],_ :: _,_,h,_=>h.elim
 | _ :: _,[],_,_,h,_=>h.elim
 | _ :: _,_ :: _,[],_,h,_=>h.elim
theorem grown_of {g:Ctx} {Hh:Heap} (h:SR W g Hh W'):Grown W W':=by
 refine ⟨⟨h.env.1,h.env.2,fun i hi=>?_⟩,fun a=>?_,h.size⟩
 ·rw [h.old i hi]
  have:=World.keptBut_refl W (fun _=>False)
  exact this.2.2 i hi
 ·by_cases ha:a.block<W.heap.size
  ·unfold World.frozen?;rw [h.old _ ha]
  ·have h1:=h.frz a.block a.off (by omega)
   have h2:=frozen_none (w:=W) (r:=a.block) (j:=a.off) (by omega)
   exact h1.trans h2.symm
theorem law_calls {E:Env} (hE:EnvOk P E) {f:FuncId} {as:List T} {args:List Value} (hv:VRs (g0 P W) W as args) (hW:Go.Rmp.W E (.call f as) [] (fun o _=>o=.val (.bool true))) :
  Calls P f args.toArray W fun e W'=>e=.returned (.bool true)∧Grown W W'∧∀ r,r<W.heap.size→W'.heap[r]?=W.heap[r]?:=by
 obtain ⟨_,hc⟩:=Go.Rmp.W.sim hE hW W (g0 P W) W args (ck0 P W) (sr0 P W) hv
 refine (callsIn_wide.1 hc).mono fun e W' ⟨v,t,g',H',he,hq,_,sr,hvr,_⟩=>?_
 cases hq
 cases hvr
 exact ⟨he,grown_of sr,sr.old⟩
theorem law_contractB {E:Env} (hE:EnvOk P E) {f:FuncId} {fn:Func} {s:ChangeSpec} {shs:List Sh} {B:Nat} {tb:TypeId} (K:Kids P (·<P.types.size)) (hz:∀ t e,t<P.types.size→P.underlying t=some (.slice e)→0<P.cellsOf e)
  (hsh:shArgs P fn.params.toList=some shs) (hlt:∀ t∈fn.params.toList,t<P.types.size) (hrt:fn.resultTypes=#[tb]) (htb:P.underlying tb=some .bool) (hvars:s.vars=[])
  (hfn:∀ ds:List (DataW H),ds.length=fn.params.toList.length→s.fn H ds={ results:=[.lit (.bool true)],args:=ds })
  (hlaw:∀ as:List T,HasShs B shs as→bkL as≤B→Go.Rmp.W E (.call f as) [] (fun o _=>o=.val (.bool true)))
  (base:Nat) (args:Array Value) (ds gs:List (DataW H)) (before:List MemPlace)
  (hval:∀ (j:Nat) t v,fn.params[j]?=some t→args[j]?=some v→Value.okWide P W .any base t v)
  (hW:DataW.Whole enc P fn.params.toList s.vars false W args.toList ds gs before) (hB:bulkAllW (ds++gs)≤B) :
  Calls P f args W fun e W'=>∃ v,e=.returned v∧s.post enc P fn false true false false W args v W':=by
 have hW':=hW
 obtain ⟨p,q,hA,hV,hpq,hfz,hnd⟩:=hW
 rw [hvars] at hV
 obtain ⟨rfl,rfl⟩:gs=[]∧q=[]:=by
  cases gs with
  | nil=>exact ⟨rfl,hV⟩
  | cons _ _=>exact hV.elim
 simp only [List.append_nil] at hpq hB
 subst hpq
 obtain ⟨as,hvs,hss,hbk⟩:=read_args fn.params.toList shs args.toList ds before hsh (fun j t v a b=>hval j t v (by simpa using a) (by simpa using b)) hA hB
 have hc:=law_calls hE hvs (hlaw as hss (Nat.le_trans hbk hB))
 rw [Array.toArray_toList] at hc
 refine hc.mono fun e W' ⟨he,hg,hold⟩=>⟨_,he,?_⟩
 have hlen:ds.length=fn.params.toList.length:=(trodAll_length hA).2
 have hfn':=hfn ds hlen
 refine post_of_same (pa:=before) (pv:=[]) hW' (fun b sp hd=>?_) (fun sp hsp=>?_) (fun sp _=>?_) (by simp) (hg.frame _) hg.2.1 (fun j t r hj hr=>?_)
 ·rw [List.append_nil,hfn',hrt]
  simp only [Value.resultList]
  exact trodAll_mk1 (shut_bool htb _)
 ·rw [List.append_nil,hfn']
  refine DataW.TrodAll.respare K hz hlt (trodAll_carry _ _ _ _ hA fun x hx=>?_) hsp
  have hb:=hW'.lt x hx
  cases x with
  | cell b o=>simp only [World.sameAt,World.cell?];rw [hold b hb]
  | map b=>exact hold b hb
 ·rw [List.append_nil,hfn',hvars];rfl
 ·rw [hrt] at hj hr
  cases j with
  | zero=>simp [Value.resultList] at hj hr;subst hj;subst hr;exact okWide_bool_mk htb _
  | succ j=>simp at hj
theorem law_contract {E:Env} (hE:EnvOk P E) {f:FuncId} {fn:Func} {s:ChangeSpec} {shs:List Sh} {B:Nat} {tb:TypeId} (K:Kids P (·<P.types.size)) (hz:∀ t e,t<P.types.size→P.underlying t=some (.slice e)→0<P.cellsOf e)
  (hsh:shArgs P fn.params.toList=some shs) (hlt:∀ t∈fn.params.toList,t<P.types.size) (hrt:fn.resultTypes=#[tb]) (htb:P.underlying tb=some .bool) (hvars:s.vars=[])
  (hfn:∀ ds:List (DataW H),ds.length=fn.params.toList.length→s.fn H ds={ results:=[.lit (.bool true)],args:=ds })
  (hlaw:∀ as:List T,HasShs B shs as→Go.Rmp.W E (.call f as) [] (fun o _=>o=.val (.bool true)))
  (base:Nat) (args:Array Value) (ds gs:List (DataW H)) (before:List MemPlace)
  (hval:∀ (j:Nat) t v,fn.params[j]?=some t→args[j]?=some v→Value.okWide P W .any base t v)
  (hW:DataW.Whole enc P fn.params.toList s.vars false W args.toList ds gs before) (hB:bulkAllW (ds++gs)≤B) :
  Calls P f args W fun e W'=>∃ v,e=.returned v∧s.post enc P fn false true false false W args v W' :=
 law_contractB hE K hz hsh hlt hrt htb hvars hfn (fun as h _=>hlaw as h) base args ds gs before hval hW hB
end
def stB (R:Regs) (H:Heap):List Rd→Prop
 | []=>True
 | r :: l=>(wants R r.g=true→evop R H r.op=some (R r.d,H))∧stB R H l
theorem stB_ok {R:Regs} {H:Heap}:∀ (l:List Rd),stB R H l→stable R H l
 | [],_=>fun r h=>by cases h
 | x :: l,h=>fun r hr=>by
  rcases List.mem_cons.1 hr with rfl | hr
  ·exact h.1
  ·exact stB_ok l h.2 r hr
theorem updo_s (R:Regs) (d:Nat) (v:T):updo R (some d) v=upd R d v:=rfl
theorem updo_n (R:Regs) (v:T):updo R none v=R:=rfl
theorem upd_ap (R:Regs) (d:Nat) (v:T) (t:Nat):upd R d v t=if t=d then v else R t:=rfl
theorem regs0_0 (a:T) (l:List T):regs0 (a :: l) 0=a:=rfl
theorem ev_r (R:Regs) (t:Nat):X.ev R (.r t)=R t:=rfl
theorem ev_c (R:Regs) (v:T):X.ev R (.c v)=v:=rfl
def nilsB (R:Regs) (g:Gd) (s:List Rd):Bo→Prop
 | .eqr _ c x y=>g=none∧s=[]∧c=.slice∧x.ev R=.sl .arg []∧y.ev R=.sl .nil []
 | _=>False
structure YldB (E:Env) (R:Regs) (H:Heap) (x:X) (az:List X) (P:Heap→Bool→Prop) (b n:Nat) (R0:Regs) (ps:List Nat) (asg body:C) (M1 M:Out→Heap→Prop):Prop where
 hf:x.ev R=.yld b
 hb:H[b]?=some (.loop .ready none n R0 ps asg body)
 hn:az.length=ps.length
 h1:W E (.code asg (setps R0 ps (az.map (X.ev R)))) H M1
 h1':∀ o H',M1 o H'→(∃ R1,o=.ex .normal R1)∧H'[b]?=some (.loop .ready none n R0 ps asg body)
 h2:∀ R1 H1,M1 (.ex .normal R1) H1→W E (.code body R1) (H1.set b (.loop .busy none n R0 ps asg body)) M
 h2':∀ o H',M o H'→H'[b]?=some (.loop .busy none n R0 ps asg body)
 h3:∀ R' H',M (.ex .normal R') H'→P (H'.set b (.loop .ready none n R0 ps asg body)) true
 h4:∀ e R' H',M (.ex e R') H'→e≠.normal→P (H'.set b (.loop .done (some e) n R0 ps asg body)) false
def wpB (E:Env):List O→Regs→Heap→(Regs→Heap→Prop)→Prop
 | [],R,H,K=>K R H
 | ⟨d,.b b,g,s⟩ :: l,R,H,K=>match wants R g with
  | false=>wpB E l (updo R d undefT) H K
  | true=>match evop R H b with
   | some (v,H')=>stB R H' s∧wpB E l (updo R d v) H' K
   | none=>(nilsB R g s b∧∀ t:Bool,wpB E l (updo R d (.bool t)) H K) ∨
    ∃ x bb bi es ix cur,b=.nxt x∧x.ev R=.ptr bi 0∧H[bb]?=some (.rmap es ix bi cur)∧∀ t H',NxtTo H bb bi es ix t H'→stB R H' s∧wpB E l (updo R d t) H' K
 | ⟨d,.call f az,g,s⟩ :: l,R,H,K=>match wants R g with
  | false=>wpB E l (updo R d undefT) H K
  | true=>∃ M:Out→Heap→Prop,W E (.call f (az.map (X.ev R))) H M∧∀ v H',M (.val v) H'→stB R H' s∧wpB E l (updo R d v) H' K
 | ⟨d,.callv x az,g,s⟩ :: l,R,H,K=>match wants R g with
  | false=>wpB E l (updo R d undefT) H K
  | true=>(∃ (f:Nat) (cs:List T) (M:Out→Heap→Prop),x.ev R=.fn f cs∧W E (.call f (az.map (X.ev R)++cs)) H M∧∀ v H',M (.val v) H'→stB R H' s∧wpB E l (updo R d v) H' K) ∨
   ∃ b n R0 ps asg body M1 M,YldB E R H x az (fun H' t=>stB R H' s∧wpB E l (updo R d (.bool t)) H' K) b n R0 ps asg body M1 M
theorem wpB_ok {E:Env} {Q:Out→Heap→Prop}:∀ (l:List O) (R:Regs) (H:Heap),wpB E l R H (fun R' H'=>Q (.ex .normal R') H')→W E (.ops l R) H Q
 | [],R,H,h=>.nil h
 | ⟨d,.b b,g,s⟩ :: l,R,H,h=>by
  simp only [wpB] at h
  split at h
  ·rename_i hw;exact .no hw (wpB_ok l _ _ h)
  ·rename_i hw
   split at h
   ·rename_i v H' he;exact .op hw he (stB_ok _ h.1) (wpB_ok l _ _ h.2)
   ·rcases h with h | ⟨x,bb,bi,es,ix,cur,rfl,hx,hb,h⟩
    ·cases b with
     | eqr neg c x y =>
      obtain ⟨⟨hg,hs,hc,hx,hy⟩,h⟩:=h
      subst hg
      exact .nils hs (fun t=>wpB_ok l _ _ (h t)) hx hy hc
     | _=>exact h.1.elim
    ·exact .nxt hw hx hb (fun t H' hm=>stB_ok _ (h t H' hm).1) fun t H' hm=>wpB_ok l _ _ (h t H' hm).2
 | ⟨d,.call f az,g,s⟩ :: l,R,H,h=>by
  simp only [wpB] at h
  split at h
  ·rename_i hw;exact .no hw (wpB_ok l _ _ h)
  ·rename_i hw
   obtain ⟨M,h1,h2⟩:=h
   exact .call M hw h1 (fun v H' hm=>stB_ok _ (h2 v H' hm).1) (fun v H' hm=>wpB_ok l _ _ (h2 v H' hm).2)
 | ⟨d,.callv x az,g,s⟩ :: l,R,H,h=>by
  simp only [wpB] at h
  split at h
  ·rename_i hw;exact .no hw (wpB_ok l _ _ h)
  ·rename_i hw
   rcases h with ⟨f,cs,M,hf,h1,h2⟩ | ⟨b,n,R0,ps,asg,body,M1,M,h⟩
   ·exact .callv M hw hf h1 (fun v H' hm=>stB_ok _ (h2 v H' hm).1) (fun v H' hm=>wpB_ok l _ _ (h2 v H' hm).2)
   ·exact .yld M1 M hw h.hf h.hb h.hn h.h1 h.h1' h.h2 h.h2' (fun R' H' hm=>stB_ok _ (h.h3 R' H' hm).1) (fun R' H' hm=>wpB_ok l _ _ (h.h3 R' H' hm).2) (fun e R' H' hm he=>stB_ok _ (h.h4 e R' H' hm he).1) (fun e R' H' hm he=>wpB_ok l _ _ (h.h4 e R' H' hm he).2)
def thenQ (K:Regs→Heap→Prop) (Q:Out→Heap→Prop):Out→Heap→Prop
 | .ex .normal R,H=>K R H
 | o,H=>Q o H
def blockQ (id:Nat) (Q:Out→Heap→Prop):Out→Heap→Prop
 | .ex (.exit i) R,H=>if i=id then Q (.ex .normal R) H else Q (.ex (.exit i) R) H
 | o,H=>Q o H
def wpC (E:Env):C→Regs→Heap→(Out→Heap→Prop)→Prop
 | .skip,R,H,Q=>Q (.ex .normal R) H
 | .ops l,R,H,Q=>wpB E l R H fun R' H'=>Q (.ex .normal R') H'
 | .seq a b,R,H,Q=>wpC E a R H (thenQ (fun R' H'=>wpC E b R' H' Q) Q)
 | .cond x a b,R,H,Q=>match x.ev R with
  | .bool true=>wpC E a R H Q
  | .bool false=>wpC E b R H Q
  | _=>False
 | .block id a,R,H,Q=>wpC E a R H (blockQ id Q)
 | .exit id,R,H,Q=>Q (.ex (.exit id) R) H
 | .ret,R,H,Q=>Q (.ex .ret R) H
 | .loop a,R,H,Q=>W E (.code (.loop a) R) H Q
 | .rangeF n x ps a b,R,H,Q=>W E (.code (.rangeF n x ps a b) R) H Q
theorem wpC_ok {E:Env}:∀ (c:C) (R:Regs) (H:Heap) (Q:Out→Heap→Prop),wpC E c R H Q→W E (.code c R) H Q
 | .skip,R,H,Q,h=>.skip h
 | .ops l,R,H,Q,h=>.reg (wpB_ok l R H h)
 | .seq a b,R,H,Q,h=>.seq _ (wpC_ok a R H _ h) (fun R' H' hm=>wpC_ok b R' H' Q hm) (fun o H' hm hn=>by
  cases o with
  | ex e R'=>cases e with
   | normal=>exact absurd rfl (hn R')
   | exit id=>exact hm
   | ret=>exact hm
  | val v=>exact hm)
 | .cond x a b,R,H,Q,h=>by
  simp only [wpC] at h
  split at h
  ·rename_i hx;exact .cond true hx (wpC_ok a R H Q h)
  ·rename_i hx;exact .cond false hx (wpC_ok b R H Q h)
  ·exact h.elim
 | .block id a,R,H,Q,h=>.block _ (wpC_ok a R H _ h) (fun R' H' hm=>by simpa [blockQ] using hm) (fun o H' hm hn=>by
  cases o with
  | ex e R'=>cases e with
   | normal=>exact hm
   | exit i =>
    simp only [blockQ] at hm
    split at hm
    ·rename_i e;subst e;exact absurd rfl (hn R')
    ·exact hm
   | ret=>exact hm
  | val v=>exact hm)
 | .exit id,R,H,Q,h=>.exit h
 | .ret,R,H,Q,h=>.ret h
 | .loop a,R,H,Q,h=>h
 | .rangeF n x ps a b,R,H,Q,h=>h
section
variable (E:Env) (R:Regs) (H:Heap) (K:Regs→Heap→Prop) (Q:Out→Heap→Prop) (l:List O) (d:Option Nat) (s:List Rd)
def isT:T→Bool
 | .bool c=>c
 | _=>false
def isF:T→Bool
 | .bool c=>!c
 | _=>false
def stepB (b:Bo) (g:Gd) (e:Option (T × Heap)):Prop:=match e with
 | some (v,H')=>stB R H' s∧wpB E l (updo R d v) H' K
 | none=>(nilsB R g s b∧∀ t:Bool,wpB E l (updo R d (.bool t)) H K) ∨
  ∃ x bb bi es ix cur,b=.nxt x∧x.ev R=.ptr bi 0∧H[bb]?=some (.rmap es ix bi cur)∧∀ t H',NxtTo H bb bi es ix t H'→stB R H' s∧wpB E l (updo R d t) H' K
def grdB (b:Bo) (g:Gd) (w:Bool):Prop:=match w with
 | false=>wpB E l (updo R d undefT) H K
 | true=>stepB E R H K l d s b g (evop R H b)
def contB (v:T) (H':Heap):Prop:=stB R H' s∧wpB E l (updo R d v) H' K
def callB (f:Nat) (az:List T):Prop:=∃ M:Out→Heap→Prop,W E (.call f az) H M∧∀ v H',M (.val v) H'→contB E R K l d s v H'
def grdC (f:Nat) (az:List X) (w:Bool):Prop:=match w with
 | false=>wpB E l (updo R d undefT) H K
 | true=>callB E R H K l d s f (az.map (X.ev R))
def callvB (t:T) (az:List X):Prop:=match t with
 | .fn f cs=>callB E R H K l d s f (az.map (X.ev R)++cs)
 | _=>False
def normK (R:Regs) (H:Heap):Prop:=Q (.ex .normal R) H
def contC (b:C) (R:Regs) (H:Heap):Prop:=wpC E b R H Q
def condC (a b:C) (t:T):Prop:=match t with
 | .bool true=>wpC E a R H Q
 | .bool false=>wpC E b R H Q
 | _=>False
theorem b_nil:wpB E [] R H K=K R H:=rfl
theorem b_b (b:Bo):wpB E (⟨d,.b b,none,s⟩ :: l) R H K=stepB E R H K l d s b none (evop R H b):=rfl
theorem b_g (b:Bo) (g:Nat × Bool):wpB E (⟨d,.b b,some g,s⟩ :: l) R H K=grdB E R H K l d s b (some g) (wants R (some g)):=by simp only [wpB,grdB];rfl
theorem b_c (f:Nat) (az:List X):wpB E (⟨d,.call f az,none,s⟩ :: l) R H K=callB E R H K l d s f (az.map (X.ev R)):=rfl
theorem b_cg (f:Nat) (az:List X) (g:Nat × Bool):wpB E (⟨d,.call f az,some g,s⟩ :: l) R H K=grdC E R H K l d s f az (wants R (some g)):=by simp only [wpB,grdC];rfl
theorem b_v {x:X} {az:List X} (h:callvB E R H K l d s (x.ev R) az):wpB E (⟨d,.callv x az,none,s⟩ :: l) R H K:=by
 unfold callvB at h
 split at h
 ·rename_i f cs hx
  obtain ⟨M,h1,h2⟩:=h
  exact .inl ⟨f,cs,M,hx,h1,h2⟩
 ·exact h.elim
theorem b_vf {g:Nat × Bool} {x:X} {az:List X} (hg:wants R (some g)=false):wpB E (⟨d,.callv x az,some g,s⟩ :: l) R H K=wpB E l (updo R d undefT) H K:=by
 simp only [wpB,hg]
theorem step_n (neg:Bool) (c:Cls) (x y:X):stepB E R H K l d s (.eqr neg c x y) none none=((s=[]∧c=.slice∧x.ev R=.sl .arg []∧y.ev R=.sl .nil [])∧∀ t:Bool,wpB E l (updo R d (.bool t)) H K):=by simp only [stepB,nilsB,true_and,reduceCtorEq,false_and,exists_false,or_false]
theorem step_s (b:Bo) (g:Gd) (v:T) (H':Heap):stepB E R H K l d s b g (some (v,H'))=(stB R H' s∧wpB E l (updo R d v) H' K):=rfl
theorem grd_t (b:Bo) (g:Gd):grdB E R H K l d s b g true=stepB E R H K l d s b g (evop R H b):=rfl
theorem grd_f (b:Bo) (g:Gd):grdB E R H K l d s b g false=wpB E l (updo R d undefT) H K:=rfl
theorem grdc_t (f:Nat) (az:List X):grdC E R H K l d s f az true=callB E R H K l d s f (az.map (X.ev R)):=rfl
theorem grdc_f (f:Nat) (az:List X):grdC E R H K l d s f az false=wpB E l (updo R d undefT) H K:=rfl
theorem callB_of {f:Nat} {az:List T} (M:Out→Heap→Prop) (h1:W E (.call f az) H M) (h2:∀ v H',M (.val v) H'→stB R H' s∧wpB E l (updo R d v) H' K):callB E R H K l d s f az:=⟨M,h1,h2⟩
theorem c_skip:wpC E .skip R H Q=Q (.ex .normal R) H:=rfl
theorem c_ops:wpC E (.ops l) R H Q=wpB E l R H (normK Q):=rfl
theorem norm_ap:normK Q R H=Q (.ex .normal R) H:=rfl
theorem c_seq (a b:C):wpC E (.seq a b) R H Q=wpC E a R H (thenQ (contC E Q b) Q):=rfl
theorem c_cond (x:X) (a b:C):wpC E (.cond x a b) R H Q=condC E R H Q a b (x.ev R):=rfl
theorem c_block (id:Nat) (a:C):wpC E (.block id a) R H Q=wpC E a R H (blockQ id Q):=rfl
theorem c_exit (id:Nat):wpC E (.exit id) R H Q=Q (.ex (.exit id) R) H:=rfl
theorem c_ret:wpC E .ret R H Q=Q (.ex .ret R) H:=rfl
theorem c_loop (a:C):wpC E (.loop a) R H Q=W E (.code (.loop a) R) H Q:=rfl
theorem c_range (n:Nat) (x:X) (ps:List Nat) (a b:C):wpC E (.rangeF n x ps a b) R H Q=W E (.code (.rangeF n x ps a b) R) H Q:=rfl
theorem cont_ap (b:C):contC E Q b R H=wpC E b R H Q:=rfl
theorem cond_t (a b:C):condC E R H Q a b (.bool true)=wpC E a R H Q:=rfl
theorem cond_f (a b:C):condC E R H Q a b (.bool false)=wpC E b R H Q:=rfl
theorem then_n (R:Regs) (H:Heap):thenQ K Q (.ex .normal R) H=K R H:=rfl
theorem then_r (R:Regs) (H:Heap):thenQ K Q (.ex .ret R) H=Q (.ex .ret R) H:=rfl
theorem then_e (id:Nat) (R:Regs) (H:Heap):thenQ K Q (.ex (.exit id) R) H=Q (.ex (.exit id) R) H:=rfl
theorem blk_n (id:Nat) (R:Regs) (H:Heap):blockQ id Q (.ex .normal R) H=Q (.ex .normal R) H:=rfl
theorem blk_r (id:Nat) (R:Regs) (H:Heap):blockQ id Q (.ex .ret R) H=Q (.ex .ret R) H:=rfl
theorem blk_e (id i:Nat) (R:Regs) (H:Heap):blockQ id Q (.ex (.exit i) R) H=if i=id then Q (.ex .normal R) H else Q (.ex (.exit i) R) H:=rfl
theorem want_t (t:Nat):wants R (some (t,true))=isT (R t):=by cases h:R t <;> simp [wants,isT,h]
theorem want_f (t:Nat):wants R (some (t,false))=isF (R t):=by cases h:R t <;> simp [wants,isF,h]
theorem isT_b (c:Bool):isT (.bool c)=c:=rfl
theorem isT_u:isT undefT=false:=rfl
theorem isF_u:isF undefT=false:=rfl
theorem isF_b (c:Bool):isF (.bool c)=!c:=rfl
end
theorem W.loopI {E:Env} {α:Type} {a:C} {R:Regs} {H:Heap} {Q:Out→Heap→Prop} (I:α→Regs→Heap→Prop) (μ:α→Nat) (x:α) (h0:I x R H)
  (step:∀ x R H,I x R H→wpC E a R H (thenQ (fun R' H'=>∃ y,μ y<μ x∧I y R' H') Q)):W E (.code (.loop a) R) H Q:=by
 have key:∀ (n:Nat) (x:α) (R:Regs) (H:Heap),μ x=n→I x R H→W E (.code (.loop a) R) H Q:=by
  intro n
  induction n using Nat.strongRecOn with
  | _ n ih =>
   intro x R H hn hI
   refine .loop _ (wpC_ok a R H _ (step x R H hI)) (fun R' H' hm=>?_) (fun o H' hm hno=>?_)
   ·obtain ⟨y,hy,hI'⟩:=hm
    exact ih (μ y) (hn ▸ hy) y R' H' rfl hI'
   ·cases o with
    | ex e R'=>cases e with
     | normal=>exact absurd rfl (hno R')
     | exit id=>exact hm
     | ret=>exact hm
    | val v=>exact hm
 exact key _ x R H rfl h0
def endQ (res:List Rs) (Q:Out→Heap→Prop):Out→Heap→Prop
 | .ex .normal R,H | .ex .ret R,H=>match resT R H res with
  | some v=>Q (.val v) H
  | none=>False
 | _,_=>False
theorem W.fnI {E:Env} {f:Nat} {fn:Fn} {az:List T} {H:Heap} {Q:Out→Heap→Prop} (hf:E.fn f=some fn) (hr:fn.body.hasR=false) (hn:az.length=fn.np) (h:wpC E fn.body (regs0 az) H (endQ fn.res Q)):W E (.call f az) H Q:=by
 refine .fn _ hf hr hn (wpC_ok _ _ _ _ h) fun o H' hm=>?_
 cases o with
 | ex e R =>
  cases e with
  | normal=>simp only [endQ] at hm;split at hm;exact ⟨R,.inl rfl,_,by assumption,hm⟩;exact hm.elim
  | exit id=>exact hm.elim
  | ret=>simp only [endQ] at hm;split at hm;exact ⟨R,.inr rfl,_,by assumption,hm⟩;exact hm.elim
 | val v=>exact hm.elim
def endR (n:Nat) (res:List Rs) (Q:Out→Heap→Prop):Out→Heap→Prop
 | .ex .normal R,H | .ex .ret R,H=>∃ bs,marks (R n)=some bs∧bs.Nodup∧(∀ b∈bs,H[b]?=some .dfr)∧match resT R (kill H bs) res with
  | some v=>Q (.val v) (kill H bs)
  | none=>False
 | _,_=>False
theorem W.fnrI {E:Env} {f:Nat} {fn:Fn} {az:List T} {H:Heap} {Q:Out→Heap→Prop} (hf:E.fn f=some fn) (hn:az.length=fn.np) (h:wpC E fn.body (regs0 az) H (endR fn.n fn.res Q)):W E (.call f az) H Q:=by
 refine .fnr _ hf hn (wpC_ok _ _ _ _ h) fun o H' hm=>?_
 cases o with
 | ex e R =>
  cases e with
  | normal=>obtain ⟨bs,h1,h2,h3,h4⟩:=hm;split at h4;exact ⟨R,bs,.inl rfl,h1,h2,h3,_,by assumption,h4⟩;exact h4.elim
  | exit id=>exact hm.elim
  | ret=>obtain ⟨bs,h1,h2,h3,h4⟩:=hm;split at h4;exact ⟨R,bs,.inr rfl,h1,h2,h3,_,by assumption,h4⟩;exact h4.elim
 | val v=>exact hm.elim
theorem W.rangeI {E:Env} {n:Nat} {x:X} {ps:List Nat} {asg body:C} {R:Regs} {H:Heap} {Q:Out→Heap→Prop} {f:Nat} {cs:List T} (hx:x.ev R=.fn f cs)
  (h:W E (.call f (.yld (H.length+1) :: cs)) (H++[.dfr,.loop .ready none n R ps asg body]) (fun _ H'=>H'[H.length+1]?=some (.loop .ready none n R ps asg body)∧Q (.ex .normal (upd R n (pushMark (R n) H.length))) (H'.set (H.length+1) .dead))) :
  W E (.code (.rangeF n x ps asg body) R) H Q :=
 .rangeF _ hx h fun _ _ hm=>⟨.ready,none,by simp,by simp,hm.1,hm.2⟩
theorem b_yld {E:Env} {R:Regs} {H:Heap} {K:Regs→Heap→Prop} {l:List O} {d:Option Nat} {s:List Rd} {x:X} {az:List X} {b n:Nat} {R0:Regs} {ps:List Nat} {asg body:C}
  (hf:x.ev R=.yld b) (hb:H[b]?=some (.loop .ready none n R0 ps asg body)) (hn:az.length=ps.length)
  (h:wpC E asg (setps R0 ps (az.map (X.ev R))) H (fun o H1=>∃ R1,o=.ex .normal R1∧H1[b]?=some (.loop .ready none n R0 ps asg body) ∧
   wpC E body R1 (H1.set b (.loop .busy none n R0 ps asg body)) (fun o H2=>∃ R2,o=.ex .normal R2∧H2[b]?=some (.loop .busy none n R0 ps asg body) ∧
    stB R (H2.set b (.loop .ready none n R0 ps asg body)) s∧wpB E l (updo R d (.bool true)) (H2.set b (.loop .ready none n R0 ps asg body)) K))) :
  wpB E (⟨d,.callv x az,none,s⟩ :: l) R H K:=by
 refine .inr ⟨b,n,R0,ps,asg,body,_,fun o H2=>∃ R2,o=.ex .normal R2∧H2[b]?=some (.loop .busy none n R0 ps asg body)∧stB R (H2.set b (.loop .ready none n R0 ps asg body)) s∧wpB E l (updo R d (.bool true)) (H2.set b (.loop .ready none n R0 ps asg body)) K,hf,hb,hn,wpC_ok _ _ _ _ h,?_,?_,?_,?_,?_⟩
 ·rintro o H' ⟨R1,rfl,h1,_⟩;exact ⟨⟨R1,rfl⟩,h1⟩
 ·rintro R1 H1 ⟨_,h0,h1,h2⟩;cases h0;exact wpC_ok _ _ _ _ h2
 ·rintro o H' ⟨_,_,h,_⟩;exact h
 ·rintro R' H' ⟨_,h0,_,h⟩;exact h
 ·rintro e R' H' ⟨_,h0,_⟩ hne;cases h0;exact absurd rfl hne
theorem W.use {E:Env} {j:J} {H:Heap} {Q Q':Out→Heap→Prop} (h:W E j H Q) (hq:∀ o H',Q o H'→Q' o H'):W E j H Q':=by
 induction h generalizing Q' with
 | skip h=>exact .skip (hq _ _ h)
 | exit h=>exact .exit (hq _ _ h)
 | ret h=>exact .ret (hq _ _ h)
 | reg _ ih=>exact .reg (ih hq)
 | seq M h1 h2 h3 _ ih2=>exact .seq M h1 (fun R' H' hm=>ih2 R' H' hm hq) (fun o H' hm hn=>hq _ _ (h3 o H' hm hn))
 | cond t hx _ ih=>exact .cond t hx (ih hq)
 | block M h1 h2 h3 _=>exact .block M h1 (fun R' H' hm=>hq _ _ (h2 R' H' hm)) (fun o H' hm hn=>hq _ _ (h3 o H' hm hn))
 | loop M h1 h2 h3 _ ih2=>exact .loop M h1 (fun R' H' hm=>ih2 R' H' hm hq) (fun o H' hm hn=>hq _ _ (h3 o H' hm hn))
 | nil h=>exact .nil (hq _ _ h)
 | no hg _ ih=>exact .no hg (ih hq)
 | op hg he hs _ ih=>exact .op hg he hs (ih hq)
 | call M hg h1 hs _ _ ih2=>exact .call M hg h1 hs (fun v H' hm=>ih2 v H' hm hq)
 | callv M hg hf h1 hs _ _ ih2=>exact .callv M hg hf h1 hs (fun v H' hm=>ih2 v H' hm hq)
 | yld M1 M hg hf hb hn h1 h1' h2 h2' hs3 _ hs4 _ _ _ ih3 ih4=>exact .yld M1 M hg hf hb hn h1 h1' h2 h2' hs3 (fun R' H' hm=>ih3 R' H' hm hq) hs4 (fun e R' H' hm he=>ih4 e R' H' hm he hq)
 | nils hs h hx hy hc ih=>exact .nils hs (fun b=>ih b hq) hx hy hc
 | rangeF M hx h1 h2 _=>exact .rangeF M hx h1 (fun v H' hm=>let ⟨st,pe,a,b,c,d⟩:=h2 v H' hm;⟨st,pe,a,b,c,hq _ _ d⟩)
 | fnr M hf hn h1 h2 _=>exact .fnr M hf hn h1 (fun o H' hm=>let ⟨R',bs,a,b,c,d,v,e,f⟩:=h2 o H' hm;⟨R',bs,a,b,c,d,v,e,hq _ _ f⟩)
 | fn M hf hr hn h1 h2 _=>exact .fn M hf hr hn h1 (fun o H' hm=>let ⟨R',a,v,b,c⟩:=h2 o H' hm;⟨R',a,v,b,hq _ _ c⟩)
 | revl i M hi h1 h2 _=>exact .revl i M hi h1 (fun v H' hm=>hq _ _ (h2 v H' hm))
 | frz M h1 h2 _=>exact .frz M h1 (fun o H' hm=>let ⟨v,b,cs,a,c,d,e⟩:=h2 o H' hm;⟨v,b,cs,a,c,d,hq _ _ e⟩)
 | nxt hg hx hb hs _ ih=>exact .nxt hg hx hb hs fun t H' hm=>ih t H' hm hq
 | shr M h1 h2 _=>exact .shr M h1 (fun o H' hm=>let ⟨v,b,cs,k,a,c,d,e⟩:=h2 o H' hm;⟨v,b,cs,k,a,c,d,hq _ _ e⟩)
 | prim h=>exact .prim (E.mono _ _ _ _ _ h fun t H' hm=>hq _ _ hm)
theorem wpB_mono {E:Env} {K K':Regs→Heap→Prop} (hk:∀ R H,K R H→K' R H):∀ (l:List O) (R:Regs) (H:Heap),wpB E l R H K→wpB E l R H K'
 | [],R,H,h=>hk _ _ h
 | ⟨d,.b b,g,s⟩ :: l,R,H,h=>by
  simp only [wpB] at h ⊢
  split at h
  ·exact wpB_mono hk l _ _ h
  ·split at h
   ·exact ⟨h.1,wpB_mono hk l _ _ h.2⟩
   ·rcases h with h | ⟨x,bb,bi,es,ix,cur,e,hx,hb,h⟩
    ·exact .inl ⟨h.1,fun t=>wpB_mono hk l _ _ (h.2 t)⟩
    ·exact .inr ⟨x,bb,bi,es,ix,cur,e,hx,hb,fun t H' hm=>⟨(h t H' hm).1,wpB_mono hk l _ _ (h t H' hm).2⟩⟩
 | ⟨d,.call f az,g,s⟩ :: l,R,H,h=>by
  simp only [wpB] at h ⊢
  split at h
  ·exact wpB_mono hk l _ _ h
  ·obtain ⟨M,h1,h2⟩:=h
   exact ⟨M,h1,fun v H' hm=>⟨(h2 v H' hm).1,wpB_mono hk l _ _ (h2 v H' hm).2⟩⟩
 | ⟨d,.callv x az,g,s⟩ :: l,R,H,h=>by
  simp only [wpB] at h ⊢
  split at h
  ·exact wpB_mono hk l _ _ h
  ·rcases h with ⟨f,cs,M,hf,h1,h2⟩ | ⟨b,n,R0,ps,asg,body,M1,M,h⟩
   ·exact .inl ⟨f,cs,M,hf,h1,fun v H' hm=>⟨(h2 v H' hm).1,wpB_mono hk l _ _ (h2 v H' hm).2⟩⟩
   ·exact .inr ⟨b,n,R0,ps,asg,body,M1,M,⟨h.hf,h.hb,h.hn,h.h1,h.h1',h.h2,h.h2',fun R' H' hm=>⟨(h.h3 R' H' hm).1,wpB_mono hk l _ _ (h.h3 R' H' hm).2⟩,fun e R' H' hm he=>⟨(h.h4 e R' H' hm he).1,wpB_mono hk l _ _ (h.h4 e R' H' hm he).2⟩⟩⟩
theorem wpC_mono {E:Env}:∀ (c:C) (R:Regs) (H:Heap) {Q Q':Out→Heap→Prop},(∀ o H,Q o H→Q' o H)→wpC E c R H Q→wpC E c R H Q'
 | .skip,R,H,Q,Q',hq,h=>hq _ _ h
 | .ops l,R,H,Q,Q',hq,h=>wpB_mono (fun R H h=>hq _ _ h) l R H h
 | .seq a b,R,H,Q,Q',hq,h=>wpC_mono a R H (fun o H' h=>by
  cases o with
  | ex e R'=>cases e with
   | normal=>exact wpC_mono b R' H' hq h
   | exit id=>exact hq _ _ h
   | ret=>exact hq _ _ h
  | val v=>exact hq _ _ h) h
 | .cond x a b,R,H,Q,Q',hq,h=>by
  simp only [wpC] at h ⊢
  split at h
  ·exact wpC_mono a R H hq h
  ·exact wpC_mono b R H hq h
  ·exact h.elim
 | .block id a,R,H,Q,Q',hq,h=>wpC_mono a R H (fun o H' h=>by
  cases o with
  | ex e R'=>cases e with
   | normal=>exact hq _ _ h
   | exit i=>simp only [blockQ] at h ⊢;split at h <;> (rename_i e;simp only [e,if_true,if_false];exact hq _ _ h)
   | ret=>exact hq _ _ h
  | val v=>exact hq _ _ h) h
 | .exit id,R,H,Q,Q',hq,h=>hq _ _ h
 | .ret,R,H,Q,Q',hq,h=>hq _ _ h
 | .loop a,R,H,Q,Q',hq,h=>W.use h hq
 | .rangeF n x ps a b,R,H,Q,Q',hq,h=>W.use h hq
def Ret (v:T) (H:Heap):Out→Heap→Prop:=fun o H'=>o=.val v∧H'=H
theorem ret_val (v v':T) (H H':Heap):Ret v H (.val v') H'=(v'=v∧H'=H):=by simp [Ret]
theorem regs0_1 (a b:T) (l:List T):regs0 (a :: b :: l) 1=b:=rfl
theorem regs0_2 (a b c:T) (l:List T):regs0 (a :: b :: c :: l) 2=c:=rfl
theorem regs0_3 (a b c d:T) (l:List T):regs0 (a :: b :: c :: d :: l) 3=d:=rfl
theorem regs0_4 (a b c d e:T) (l:List T):regs0 (a :: b :: c :: d :: e :: l) 4=e:=rfl
theorem ldc_tail (H:Heap) (cs:List T) (n off:Nat):ldc (H++[.cells cs]) n (.ptr H.length off)=if off+n≤cs.length then some ((cs.drop off).take n) else none:=by
 simp [ldc]
def RetG (v:T) (H:Heap):Out→Heap→Prop:=fun o H'=>o=.val v∧∃ l,H'=H++l
theorem retg_val (v v':T) (H l:Heap):RetG v H (.val v') (H++l)=(v'=v):=by simp [RetG]
theorem retg_same (v v':T) (H:Heap):RetG v H (.val v') H=(v'=v):=by
 simp only [RetG,Out.val.injEq,eq_iff_iff]
 exact ⟨fun h=>h.1,fun h=>⟨h,[],by simp⟩⟩
theorem natOf_nat (k:IntKind) (n:Nat):natOf (.int k (n:Int))=some n:=by simp [natOf]
theorem wrap64 {n:Int} (h:-9223372036854775808≤n∧n<9223372036854775808):IntKind.i64.wrap n=n:=by
 unfold IntKind.wrap
 simp only [IntKind.signed,IntKind.bits]
 simp
 omega
theorem wrapu64 {n:Int} (h:0≤n∧n<18446744073709551616):IntKind.u64.wrap n=n:=by
 unfold IntKind.wrap
 simp only [IntKind.signed,IntKind.bits]
 simp
 omega
theorem wrap_succ {i:Nat} (h:i<9223372036854775807):IntKind.i64.wrap ((i:Int)+1)=((i+1:Nat):Int):=by rw [wrap64 (by omega)];simp
theorem wrap_pred {i:Nat} (h:i<9223372036854775807) (h1:1≤i):IntKind.i64.wrap ((i:Int)-1)=((i-1:Nat):Int):=by rw [wrap64 (by omega)];omega
theorem iad_map {α:Type} {l:List α} {enc:α→List T} {k:SK} {i n:Nat} {x:α} (h:l[i]?=some x) (hn:(enc x).length=n) (h0:n≠0):iadT n i (.sl k (l.map enc))=some (.iptr (enc x)):=by
 simp [iadT,h,hn,h0]
theorem ldc1 (H:Heap) (v:T):ldc H 1 (.iptr [v])=some [v]:=rfl
theorem val1 (v:T):valOf false [v]=some v:=rfl
theorem valA (cs:List T):valOf true cs=some (.agg cs):=rfl
theorem dlt (a b:Nat):decide ((a:Int)<(b:Int))=decide (a<b):=by simp
theorem dle (a b:Nat):decide ((a:Int)≤(b:Int))=decide (a≤b):=by simp
theorem deq (a b:Nat):((a:Int)==(b:Int))=decide (a=b):=by rw [Bool.eq_iff_iff];simp;omega
theorem dne (a b:Nat):((a:Int) != (b:Int))=!decide (a=b):=by rw [Bool.eq_iff_iff];simp;omega
theorem bl_irr:∀ (a:List UInt8),Op.bytesLess a a=false
 | []=>rfl
 | x :: a=>by simp [Op.bytesLess,bl_irr a]
theorem bl_trans:∀ (a b c:List UInt8),Op.bytesLess a b=true→Op.bytesLess b c=true→Op.bytesLess a c=true
 | _,[],_,h,_=>by cases ‹List UInt8› <;> simp [Op.bytesLess] at h
 | _,_ :: _,[],_,h=>by simp [Op.bytesLess] at h
 | [],_ :: _,_ :: _,_,_=>rfl
 | x :: a,y :: b,z :: c,h1,h2=>by
  simp only [Op.bytesLess,Bool.or_eq_true,decide_eq_true_eq,Bool.and_eq_true,beq_iff_eq] at h1 h2 ⊢
  rcases h1 with h1 | ⟨rfl,h1⟩
  ·rcases h2 with h2 | ⟨rfl,h2⟩
   ·exact .inl (UInt8.lt_trans h1 h2)
   ·exact .inl h1
  ·rcases h2 with h2 | ⟨rfl,h2⟩
   ·exact .inl h2
   ·exact .inr ⟨rfl,bl_trans a b c h1 h2⟩
theorem bl_tri:∀ (a b:List UInt8),Op.bytesLess a b=false→Op.bytesLess b a=false→a=b
 | [],[],_,_=>rfl
 | [],_ :: _,h,_=>by simp [Op.bytesLess] at h
 | _ :: _,[],_,h=>by simp [Op.bytesLess] at h
 | x :: a,y :: b,h1,h2=>by
  simp only [Op.bytesLess,Bool.or_eq_false_iff,decide_eq_false_iff_not,Bool.and_eq_false_iff,beq_eq_false_iff_ne] at h1 h2
  have e:x=y:=by
   have a1:=h1.1;have a2:=h2.1
   exact UInt8.le_antisymm (UInt8.not_lt.1 a2) (UInt8.not_lt.1 a1)
  subst e
  rw [bl_tri a b (h1.2.resolve_left (fun h=>h rfl)) (h2.2.resolve_left (fun h=>h rfl))]
theorem toList_inj {a b:ByteArray} (h:a.toList=b.toList):a=b:=by
 have e:∀ c:ByteArray,c.toList=c.data.toList:=fun c=>Go.ByteArray.toList_eq c
 rw [e,e] at h
 cases a;cases b
 simp only [ByteArray.mk.injEq]
 exact Array.toList_inj.1 h
theorem strEq_eq (a b:ByteArray):strEq a b=decide (a=b):=by
 unfold strEq
 rw [Bool.eq_iff_iff]
 simp only [beq_iff_eq,decide_eq_true_eq]
 exact ⟨toList_inj,fun h=>by rw [h]⟩
theorem lt_irr (a:ByteArray):strLt a a=false:=bl_irr _
theorem lt_trans' {a b c:ByteArray} (h1:strLt a b=true) (h2:strLt b c=true):strLt a c=true:=bl_trans _ _ _ h1 h2
theorem lt_tri {a b:ByteArray} (h1:strLt a b=false) (h2:strLt b a=false):a=b:=toList_inj (bl_tri _ _ h1 h2)
theorem lt_asymm {a b:ByteArray} (h:strLt a b=true):strLt b a=false:=by
 cases e:strLt b a with
 | false=>rfl
 | true=>have:=lt_trans' h e;rw [lt_irr] at this;cases this
theorem not_le (a b:ByteArray):(!(strLt b a||strEq b a))=strLt a b:=by
 cases h:strLt a b with
 | true =>
  have h1:=lt_asymm h
  have h2:strEq b a=false:=by rw [strEq_eq];simp;rintro rfl;rw [lt_irr] at h;cases h
  simp [h1,h2]
 | false =>
  cases h1:strLt b a with
  | true=>simp
  | false=>have:=lt_tri h h1;subst this;simp [strEq_eq]
def At (H:Heap) (P:Heap→Prop):Prop:=P H
theorem At.i {H:Heap} {P:Heap→Prop} (h:P H):At H P:=h
def Ext (H H':Heap):Prop:=∃ m,H'=H++m
theorem Ext.rfl' {H:Heap}:Ext H H:=⟨[],by simp⟩
theorem Ext.trans {H H' H'':Heap} (h:Ext H H') (h':Ext H' H''):Ext H H'':=by
 obtain ⟨a,rfl⟩:=h;obtain ⟨b,rfl⟩:=h';exact ⟨a++b,by simp⟩
theorem Ext.app {H H':Heap} (h:Ext H H') (l:Heap):Ext H (H'++l):=h.trans ⟨l,rfl⟩
theorem Ext.set {H H':Heap} (h:Ext H H') {b:Nat} (hb:H.length≤b) (x:B):Ext H (H'.set b x):=by
 obtain ⟨m,rfl⟩:=h
 exact ⟨m.set (b-H.length) x,by rw [List.set_append_right _ _ hb]⟩
theorem Ext.get {H H':Heap} (h:Ext H H') {b:Nat} {x:B} (hx:H[b]?=some x):H'[b]?=some x:=by
 obtain ⟨m,rfl⟩:=h
 have:=(List.getElem?_eq_some_iff.1 hx).1
 rw [List.getElem?_append_left this];exact hx
theorem Ext.len {H H':Heap} (h:Ext H H'):H.length≤H'.length:=by obtain ⟨m,rfl⟩:=h;simp
theorem glt {H:Heap} {b:Nat} {x:B} (hx:H[b]?=some x):b<H.length:=(List.getElem?_eq_some_iff.1 hx).1
theorem retg_ext {v v':T} {H H':Heap} (h:Ext H H'):RetG v H (.val v') H'=(v'=v):=by
 simp only [RetG,Out.val.injEq,eq_iff_iff];exact ⟨fun x=>x.1,fun x=>⟨x,h⟩⟩
theorem g_tail {H l:Heap} {x:B} {b:Nat} (h:b=H.length):(H++x :: l)[b]?=some x:=by subst h;simp
theorem g_app {H l:Heap} {b:Nat} (h:b<H.length):(H++l)[b]?=H[b]?:=by rw [List.getElem?_append_left h]
theorem g_eq {H:Heap} {x:B} {b:Nat} (h:b<H.length):(H.set b x)[b]?=some x:=by simp [h]
theorem g_ne {H:Heap} {x:B} {b c:Nat} (h:b≠c):(H.set b x)[c]?=H[c]?:=by simp [h]
theorem s_tail {H l:Heap} {x y:B} {b:Nat} (h:b=H.length):(H++x :: l).set b y=H++y :: l:=by subst h;simp
theorem s_app {H l:Heap} {x:B} {b:Nat} (h:b<H.length):(H++l).set b x=H.set b x++l:=by rw [List.set_append_left _ _ h]
theorem l_app {H l:Heap} {b:Nat} (h:b<H.length):(b<(H++l).length)=True:=by simp;omega
theorem l_set {H:Heap} {x:B} {b c:Nat}:(b<(H.set c x).length)=(b<H.length):=by simp
theorem e_set {H:Heap} {x:B} {b c:Nat}:(b=(H.set c x).length)=(b=H.length):=by simp
def ldcB (n off:Nat):Option B→Option (List T)
 | some (.cells cs)=>if off+n≤cs.length then some ((cs.drop off).take n) else none
 | _=>none
theorem ldc_ptr (H:Heap) (n b off:Nat):ldc H n (.ptr b off)=ldcB n off H[b]?:=by
 simp only [ldc,ldcB];rfl
theorem ldc_iptr (H:Heap) (n:Nat) (cs:List T):ldc H n (.iptr cs)=if n≤cs.length then some (cs.take n) else none:=rfl
theorem ldcB_c (n off:Nat) (cs:List T):ldcB n off (some (.cells cs))=if off+n≤cs.length then some ((cs.drop off).take n) else none:=rfl
def stcB (H:Heap) (b:Nat) (vs:List T) (off:Nat):Option B→Option Heap
 | some (.cells cs)=>if off+vs.length≤cs.length then some (H.set b (.cells (cs.take off++vs++cs.drop (off+vs.length)))) else none
 | _=>none
theorem stc_ptr (H:Heap) (vs:List T) (b off:Nat):stc H vs (.ptr b off)=stcB H b vs off H[b]?:=by
 simp only [stc,stcB];rfl
theorem stcB_c (H:Heap) (b:Nat) (vs:List T) (off:Nat) (cs:List T):stcB H b vs off (some (.cells cs))=if off+vs.length≤cs.length then some (H.set b (.cells (cs.take off++vs++cs.drop (off+vs.length)))) else none:=rfl
theorem hset_tail (H l:Heap) (x y:B):(H++x :: l).set H.length y=H++y :: l:=s_tail rfl
theorem fad_ptr (off b o:Nat):fadT off (.ptr b o)=some (.ptr b (o+off)):=rfl
def exitQ (id:Nat) (P:Regs→Heap→Prop) (Q:Out→Heap→Prop):Out→Heap→Prop
 | .ex (.exit i) R,H=>if i=id then P R H else Q (.ex (.exit i) R) H
 | o,H=>Q o H
theorem ex_n (id:Nat) (P:Regs→Heap→Prop) (Q:Out→Heap→Prop) (R:Regs) (H:Heap):exitQ id P Q (.ex .normal R) H=Q (.ex .normal R) H:=rfl
theorem ex_r (id:Nat) (P:Regs→Heap→Prop) (Q:Out→Heap→Prop) (R:Regs) (H:Heap):exitQ id P Q (.ex .ret R) H=Q (.ex .ret R) H:=rfl
theorem ex_e (id i:Nat) (P:Regs→Heap→Prop) (Q:Out→Heap→Prop) (R:Regs) (H:Heap):exitQ id P Q (.ex (.exit i) R) H=if i=id then P R H else Q (.ex (.exit i) R) H:=rfl
theorem W.loopE {E:Env} {α:Type} {a:C} {R:Regs} {H:Heap} {Q:Out→Heap→Prop} (id:Nat) (I:α→Regs→Heap→Prop) (μ:α→Nat) (x:α) (P:Regs→Heap→Prop) (h0:I x R H)
  (step:∀ x R H,I x R H→wpC E a R H (thenQ (fun R' H'=>∃ y,μ y<μ x∧I y R' H') (exitQ id P Q))) (rest:∀ R H,P R H→Q (.ex (.exit id) R) H):W E (.code (.loop a) R) H Q :=
 W.use (W.loopI I μ x h0 step) fun o H' h=>by
  cases o with
  | ex e R'=>cases e with
   | exit i=>simp only [exitQ] at h;split at h;rename_i e;subst e;exact rest _ _ h;exact h
   | normal=>exact h
   | ret=>exact h
  | val v=>exact h
def mlook {α β:Type} [DecidableEq α] (es:List (α × β)) (k:α):Option β:=(es.find? fun e=>decide (k=e.1)).map (·.2)
def mput {α β:Type} [DecidableEq α] (es:List (α × β)) (k:α) (v:β):List (α × β) :=
 match es.findIdx? fun e=>decide (k=e.1) with
 | some i=>es.set i (k,v)
 | none=>es++[(k,v)]
def mcut {α β:Type} [DecidableEq α] (es:List (α × β)) (k:α):List (α × β) :=
 match es.findIdx? fun e=>decide (k=e.1) with
 | some i=>es.eraseIdx i
 | none=>es
section
variable {α β:Type} [DecidableEq α]
theorem mlook_nil (k:α):mlook ([]:List (α × β)) k=none:=rfl
theorem mlook_cons (e:α × β) (es:List (α × β)) (k:α):mlook (e :: es) k=if k=e.1 then some e.2 else mlook es k:=by
 unfold mlook;rw [List.find?_cons];by_cases h:k=e.1 <;> simp [h]
theorem mput_nil (k:α) (v:β):mput [] k v=[(k,v)]:=rfl
theorem mput_cons (e:α × β) (es:List (α × β)) (k:α) (v:β):mput (e :: es) k v=if k=e.1 then (k,v) :: es else e :: mput es k v:=by
 unfold mput;rw [List.findIdx?_cons]
 by_cases h:k=e.1
 ·simp [h]
 ·simp only [h,decide_false,if_false,Bool.false_eq_true]
  cases List.findIdx? (fun e=>decide (k=e.1)) es <;> simp
theorem mlook_put (es:List (α × β)) (k k':α) (v:β):mlook (mput es k v) k'=if k'=k then some v else mlook es k':=by
 induction es with
 | nil=>rw [mput_nil,mlook_cons]
 | cons e es ih =>
  rw [mput_cons]
  by_cases h:k=e.1
  ·simp only [h,if_true,mlook_cons];by_cases h':k'=e.1 <;> simp [h']
  ·simp only [h,if_false,mlook_cons,ih]
   by_cases h':k'=e.1
   ·subst h';simp [Ne.symm h]
   ·simp [h']
theorem mlook_idx (es:List (α × β)) (k:α):mlook es k=match es.findIdx? fun e=>decide (k=e.1) with
  | some i=>(es[i]?).map (·.2)
  | none=>none:=by
 induction es with
 | nil=>rfl
 | cons e es ih =>
  rw [mlook_cons,List.findIdx?_cons]
  by_cases h:k=e.1
  ·simp [h]
  ·simp only [h,if_false,decide_false,Bool.false_eq_true,ih]
   cases List.findIdx? (fun e=>decide (k=e.1)) es <;> simp
theorem idx_some {es:List (α × β)} {k:α} {i:Nat} (h:(es.findIdx? fun e=>decide (k=e.1))=some i):∃ v,es[i]?=some (k,v):=by
 rw [List.findIdx?_eq_some_iff_getElem] at h
 obtain ⟨hi,h,-⟩:=h
 refine ⟨es[i].2,?_⟩
 rw [List.getElem?_eq_getElem hi]
 simp only [decide_eq_true_eq] at h
 rw [h]
end
def encK {α:Type} (ek:α→T) (es:List (α × T)):List (T × T):=es.map fun e=>(ek e.1,e.2)
structure KeyOk {α:Type} [DecidableEq α] (kt:KT) (ek:α→T):Prop where
 has:∀ a,(ek a).hasK kt=true
 eq:∀ a b,keyEq (ek a) (ek b)=some (decide (a=b))
section
variable {α:Type} [DecidableEq α] {kt:KT} {ek:α→T}
theorem mfindK (ho:KeyOk kt ek) (k:α):∀ es:List (α × T),mfind (ek k) (encK ek es)=some (es.findIdx? fun e=>decide (k=e.1))
 | []=>rfl
 | e :: es=>by
  have ih:=mfindK ho k es
  simp only [encK] at ih ⊢
  simp only [List.map_cons,mfind,ho.eq,List.findIdx?_cons]
  cases h:decide (k=e.1)
  ·simp [ih]
  ·simp
def lkpT (o:Option T) (z:T) (ok:Bool):T:=match o with
 | some v=>if ok then .tup [v,.bool true] else v
 | none=>if ok then .tup [z,.bool false] else z
def lkpB (kt:KT) (z:T) (ok:Bool) (H:Heap) (mb:Option B) (k:T):Option (T × Heap):=match mb with
 | some (.map es)=>if k.hasK kt then match mfind k es with
  | some (some i)=>match es[i]? with
   | some e=>some (if ok then .tup [e.2,.bool true] else e.2,H)
   | none=>none
  | some none=>some (if ok then .tup [z,.bool false] else z,H)
  | none=>none else none
 | some (.rmap es _ _ _)=>if k.hasK kt then match mfind k es with
  | some (some i)=>match es[i]? with
   | some e=>some (if ok then .tup [e.2,.bool true] else e.2,H)
   | none=>none
  | some none=>some (if ok then .tup [z,.bool false] else z,H)
  | none=>none else none
 | _=>none
def lkpV (kt:KT) (z:T) (ok:Bool) (H:Heap) (m k:T):Option (T × Heap):=match m with
 | .map b=>lkpB kt z ok H H[b]? k
 | .nilm=>if k.hasK kt then some (if ok then .tup [z,.bool false] else z,H) else none
 | _=>none
theorem ev_lkp (R:Regs) (H:Heap) (kt:KT) (z:T) (ok:Bool) (m k:X):evop R H (.lkp kt z ok m k)=lkpV kt z ok H (m.ev R) (k.ev R):=by
 unfold lkpV lkpB
 simp only [evop]
 cases h1:(k.ev R).hasK kt
 ·simp only [Bool.false_eq_true,if_false]
  cases m.ev R with
  | map b=>simp only;split <;> rfl
  | _=>rfl
 ·simp only [if_true]
  cases m.ev R with
  | map b =>
   simp only [mapEs]
   cases H[b]? with
   | none=>rfl
   | some x=>cases x <;> rfl
  | nilm=>simp only [mapEs,mfind]
  | _=>rfl
theorem lkpV_map (kt:KT) (z:T) (ok:Bool) (H:Heap) (b:Nat) (k:T):lkpV kt z ok H (.map b) k=lkpB kt z ok H H[b]? k:=rfl
theorem lkpB_K (ho:KeyOk kt ek) (z:T) (ok:Bool) (H:Heap) (es:List (α × T)) (s:α):lkpB kt z ok H (some (.map (encK ek es))) (ek s)=some (lkpT (mlook es s) z ok,H):=by
 simp only [lkpB,ho.has,mfindK ho,if_true,mlook_idx]
 cases h:List.findIdx? (fun e=>decide (s=e.1)) es with
 | none=>cases ok <;> rfl
 | some i =>
  obtain ⟨v,hv⟩:=idx_some h
  have:(encK ek es)[i]?=some (ek s,v):=by simp [encK,hv]
  simp only [this,hv,lkpT,Option.map_some]
def upmB (kt:KT) (H:Heap) (b:Nat) (mb:Option B) (k v:T):Option (T × Heap):=match mb with
 | some (.map es)=>if k.hasK kt then match mfind k es with
  | some (some i)=>some (undefT,H.set b (.map (es.set i (k,v))))
  | some none=>some (undefT,H.set b (.map (es++[(k,v)])))
  | none=>none else none
 | _=>none
def upmV (kt:KT) (H:Heap) (m k v:T):Option (T × Heap):=match m with
 | .map b=>upmB kt H b H[b]? k v
 | _=>none
theorem ev_upm (R:Regs) (H:Heap) (kt:KT) (m k v:X):evop R H (.upm kt m k v)=upmV kt H (m.ev R) (k.ev R) (v.ev R):=by
 unfold upmV upmB
 simp only [evop]
 cases m.ev R with
 | map b =>
  simp only
  cases h1:(k.ev R).hasK kt
  ·simp only [Bool.false_eq_true,if_false];split <;> rfl
  ·simp only [if_true]
   cases H[b]? with
   | none=>rfl
   | some x=>cases x <;> rfl
 | _=>rfl
theorem mapErase {β γ:Type} (f:β→γ):∀ (l:List β) (j:Nat),(l.map f).eraseIdx j=(l.eraseIdx j).map f
 | [],_=>by simp
 | _ :: _,0=>by simp
 | _ :: l,j+1=>by simp [mapErase f l j]
def delB (kt:KT) (H:Heap) (b:Nat) (mb:Option B) (k:T):Option (T × Heap):=match mb with
 | some (.map es)=>if k.hasK kt then match mfind k es with
  | some (some i)=>some (.tup [],H.set b (.map (es.eraseIdx i)))
  | some none=>some (.tup [],H)
  | none=>none else none
 | _=>none
def delV (kt:KT) (H:Heap) (m k:T):Option (T × Heap):=match m with
 | .map b=>delB kt H b H[b]? k
 | _=>none
theorem ev_del (R:Regs) (H:Heap) (kt:KT) (m k:X):evop R H (.del kt m k)=delV kt H (m.ev R) (k.ev R):=by
 unfold delV delB
 simp only [evop]
 cases m.ev R with
 | map b =>
  simp only
  cases h1:(k.ev R).hasK kt
  ·simp only [Bool.false_eq_true,if_false];split <;> rfl
  ·simp only [if_true]
   cases H[b]? with
   | none=>rfl
   | some x=>cases x <;> rfl
 | _=>rfl
theorem delV_map (kt:KT) (H:Heap) (b:Nat) (k:T):delV kt H (.map b) k=delB kt H b H[b]? k:=rfl
def mdel (es:List (α × T)) (s:α):List (α × T):=match es.findIdx? (fun e=>decide (s=e.1)) with
 | some i=>es.eraseIdx i
 | none=>es
theorem delB_K (ho:KeyOk kt ek) (H:Heap) (b:Nat) (es:List (α × T)) (s:α) {v:T} (hv:mlook es s=some v):delB kt H b (some (.map (encK ek es))) (ek s)=some (.tup [],H.set b (.map (encK ek (mdel es s)))):=by
 rw [mlook_idx] at hv
 simp only [delB,ho.has,mfindK ho,if_true,mdel]
 cases h:List.findIdx? (fun e=>decide (s=e.1)) es with
 | none=>rw [h] at hv;simp at hv
 | some i=>simp only [encK,Option.some.injEq,Prod.mk.injEq,true_and];congr 2;rw [mapErase]
def rngB (H:Heap) (b:Nat):Option B→Option (T × Heap)
 | some (.map es)=>some (.ptr H.length 0,H.set b (.rmap es (List.range es.length) H.length none)++[.itr b])
 | some (.rmap es _ _ _)=>some (.ptr H.length 0,H.set b (.rmap es (List.range es.length) H.length none)++[.itr b])
 | _=>none
def rngV (H:Heap):T→Option (T × Heap)
 | .map b=>rngB H b H[b]?
 | _=>none
theorem ev_rng (R:Regs) (H:Heap) (x:X):evop R H (.rng x)=rngV H (x.ev R):=by
 simp only [evop]
 cases x.ev R with
 | map b =>
  simp only [mapEs,rngV]
  cases H[b]? with
  | none=>rfl
  | some y=>cases y <;> rfl
 | _=>rfl
theorem rngV_map (H:Heap) (b:Nat):rngV H (.map b)=rngB H b H[b]?:=rfl
theorem rngB_M (H:Heap) (b:Nat) (es:List (T × T)):rngB H b (some (.map es))=some (.ptr H.length 0,H.set b (.rmap es (List.range es.length) H.length none)++[.itr b]):=rfl
theorem ev_nxt (R:Regs) (H:Heap) (x:X):evop R H (.nxt x)=none:=rfl
def entC (H:Heap) (bi:Nat):Option B→Option (T × Heap)
 | some (.rmap es _ bi' (some c))=>if bi'=bi then (es[c]?).map fun e=>(.tup [e.1,e.2],H) else none
 | _=>none
def entB (H:Heap) (bi:Nat):Option B→Option (T × Heap)
 | some (.itr b)=>entC H bi H[b]?
 | _=>none
def entV (H:Heap):T→Option (T × Heap)
 | .ptr bi 0=>entB H bi H[bi]?
 | _=>none
theorem ev_ent (R:Regs) (H:Heap) (x:X):evop R H (.ent x)=entV H (x.ev R):=by
 simp only [evop]
 cases x.ev R with
 | ptr bi o =>
  cases o with
  | zero =>
   simp only [entV]
   cases H[bi]? with
   | none=>rfl
   | some y=>cases y with
    | itr b =>
     simp only [entB]
     cases H[b]? with
     | none=>rfl
     | some z=>cases z with
      | rmap es ix bi' cur=>cases cur <;> rfl
      | _=>rfl
    | _=>rfl
  | succ _=>rfl
 | _=>rfl
theorem entV_ptr (H:Heap) (bi:Nat):entV H (.ptr bi 0)=entB H bi H[bi]?:=rfl
theorem entB_I (H:Heap) (bi b:Nat):entB H bi (some (.itr b))=entC H bi H[b]?:=rfl
theorem entC_R (H:Heap) (bi:Nat) (es:List (T × T)) (ix:List Nat) (c:Nat):entC H bi (some (.rmap es ix bi (some c)))=(es[c]?).map fun e=>(.tup [e.1,e.2],H):=by simp only [entC,if_true]
def clrB (H:Heap) (b off len n n':Nat) (z:List T):Option B→Option (T × Heap)
 | some (.cells cs)=>if n'=n∧z.length=n∧off+len*n≤cs.length then some (undefT,H.set b (.cells (cs.take off++(List.replicate len z).flatten++cs.drop (off+len*n)))) else none
 | _=>none
def clrV (H:Heap) (n:Nat) (z:List T):T→Option (T × Heap)
 | .msl b off len n'=>clrB H b off len n n' z H[b]?
 | _=>none
theorem ev_clr (R:Regs) (H:Heap) (n:Nat) (z:List T) (x:X):evop R H (.clr n z x)=clrV H n z (x.ev R):=by
 simp only [evop]
 cases x.ev R with
 | msl b off len n' =>
  simp only [clrV]
  cases H[b]? with
  | none=>rfl
  | some y=>cases y <;> rfl
 | _=>rfl
theorem clrV_msl (H:Heap) (n:Nat) (z:List T) (b off len n':Nat):clrV H n z (.msl b off len n')=clrB H b off len n n' z H[b]?:=rfl
theorem upmV_map (kt:KT) (H:Heap) (b:Nat) (k v:T):upmV kt H (.map b) k v=upmB kt H b H[b]? k v:=rfl
theorem upmB_K (ho:KeyOk kt ek) (H:Heap) (b:Nat) (es:List (α × T)) (s:α) (v:T):upmB kt H b (some (.map (encK ek es))) (ek s) v=some (undefT,H.set b (.map (encK ek (mput es s v)))):=by
 simp only [upmB,ho.has,mfindK ho,if_true,mput]
 cases h:List.findIdx? (fun e=>decide (s=e.1)) es with
 | none=>simp [encK]
 | some i=>simp [encK]
end
theorem kStr:KeyOk (.sc .str) T.str:=⟨fun _=>rfl,fun a b=>by simp only [keyEq,eqSc,strEq_eq]⟩
def kU (n:Nat):T:=.int .u64 n
theorem kNat:KeyOk (.sc .int) kU:=⟨fun _=>rfl,fun a b=>by simp only [kU,keyEq,eqSc,if_true,deq]⟩
theorem lkpB_M (z:T) (ok:Bool) (H:Heap) (es:List (ByteArray × T)) (s:ByteArray):lkpB (.sc .str) z ok H (some (.map (encK T.str es))) (.str s)=some (lkpT (mlook es s) z ok,H):=lkpB_K kStr z ok H es s
theorem lkpB_N (z:T) (ok:Bool) (H:Heap) (es:List (Nat × T)) (s:Nat):lkpB (.sc .int) z ok H (some (.map (encK kU es))) (.int .u64 s)=some (lkpT (mlook es s) z ok,H):=lkpB_K kNat z ok H es s
theorem upmB_M (H:Heap) (b:Nat) (es:List (ByteArray × T)) (s:ByteArray) (v:T):upmB (.sc .str) H b (some (.map (encK T.str es))) (.str s) v=some (undefT,H.set b (.map (encK T.str (mput es s v)))):=upmB_K kStr H b es s v
theorem upmB_N (H:Heap) (b:Nat) (es:List (Nat × T)) (s:Nat) (v:T):upmB (.sc .int) H b (some (.map (encK kU es))) (.int .u64 s) v=some (undefT,H.set b (.map (encK kU (mput es s v)))):=upmB_K kNat H b es s v
theorem lkp_some (v z:T):lkpT (some v) z false=v:=rfl
theorem lkp_none (z:T):lkpT none z false=z:=rfl
theorem lkp_some2 (v z:T):lkpT (some v) z true=.tup [v,.bool true]:=rfl
theorem lkp_none2 (z:T):lkpT none z true=.tup [z,.bool false]:=rfl
theorem cells_agg (l:List T):(T.agg l).cells?=some l:=rfl
theorem cells_int (k:IntKind) (n:Int):(T.int k n).cells?=some [.int k n]:=rfl
theorem cells_str (s:ByteArray):(T.str s).cells?=some [.str s]:=rfl
theorem cells_bool (s:Bool):(T.bool s).cells?=some [.bool s]:=rfl
theorem cells_sl (k:SK) (l:List (List T)):(T.sl k l).cells?=some [.sl k l]:=rfl
theorem cells_msl (a b c d:Nat):(T.msl a b c d).cells?=some [.msl a b c d]:=rfl
theorem cells_map (b:Nat):(T.map b).cells?=some [.map b]:=rfl
theorem cells_ptr (a b:Nat):(T.ptr a b).cells?=some [.ptr a b]:=rfl
theorem cells_nilm:(T.nilm).cells?=some [.nilm]:=rfl
theorem cells_nilp:(T.nilp).cells?=some [.nilp]:=rfl
theorem tup1 (v:T):tupT [v]=v:=rfl
theorem tup2 (v w:T):tupT [v,w]=.tup [v,w]:=rfl
theorem tup3 (v w x:T):tupT [v,w,x]=.tup [v,w,x]:=rfl
theorem er_int (k:IntKind) (n:Int):(T.int k n).erase=.int k n:=rfl
theorem er_str (s:ByteArray):(T.str s).erase=.str s:=rfl
theorem er_bool (s:Bool):(T.bool s).erase=.bool s:=rfl
theorem er_sl (k:SK) (l:List (List T)):(T.sl k l).erase=.sl .arg l:=rfl
theorem er_ptr (a b:Nat):(T.ptr a b).erase=.ptr a b:=rfl
theorem er_map (b:Nat):(T.map b).erase=.map b:=rfl
theorem er_nilm:(T.nilm).erase=.nilm:=rfl
theorem er_nilp:(T.nilp).erase=.nilp:=rfl
theorem el_sl (H:Heap) (n:Nat) (k:SK) (es:List (List T)):elemsOf H n (.sl k es)=if es.all (·.length==n) then some es else none:=rfl
theorem want_n (R:Regs):wants R Option.none=true:=rfl
theorem tr_imp (p:Prop):(True→p)=p:=by simp
theorem im_tr (p:Prop):(p→True)=True:=by simp
theorem imp_t (p:Prop):(true=true→p)=p:=by simp
theorem imp_f (p:Prop):(false=true→p)=True:=by simp
theorem un_not (b:Bool):unT .not (.bool b)=some (.bool !b):=rfl
theorem bi_add (k:IntKind) (a b:Int):binT .add (.int k a) (.int k b)=some (.int k (k.wrap (a+b))):=by simp [binT]
theorem bi_sub (k:IntKind) (a b:Int):binT .sub (.int k a) (.int k b)=some (.int k (k.wrap (a-b))):=by simp [binT]
theorem bi_mul (k:IntKind) (a b:Int):binT .mul (.int k a) (.int k b)=some (.int k (k.wrap (a*b))):=by simp [binT]
theorem bi_quo (k:IntKind) (a b:Int):binT .quo (.int k a) (.int k b)=if b=0 then none else some (.int k (k.wrap (a.tdiv b))):=by simp [binT]
theorem bi_rem (k:IntKind) (a b:Int):binT .rem (.int k a) (.int k b)=if b=0 then none else some (.int k (a.tmod b)):=by simp [binT]
theorem bi_shl (k k':IntKind) (a b:Int):binT .shl (.int k a) (.int k' b)=if b<0 then none else some (.int k (k.wrap (a*2 ^ (min b.toNat k.bits)))):=by simp [binT]
theorem bi_shr (k k':IntKind) (a b:Int):binT .shr (.int k a) (.int k' b)=if b<0 then none else some (.int k (a.fdiv (2 ^ (min b.toNat k.bits)))):=by simp [binT]
theorem bi_and (k:IntKind) (a b:Int):binT .and (.int k a) (.int k b)=some (.int k (k.wrap (BitVec.ofInt k.bits a &&& BitVec.ofInt k.bits b).toNat)):=by simp [binT]
theorem bi_or (k:IntKind) (a b:Int):binT .or (.int k a) (.int k b)=some (.int k (k.wrap (BitVec.ofInt k.bits a ||| BitVec.ofInt k.bits b).toNat)):=by simp [binT]
theorem bi_xor (k:IntKind) (a b:Int):binT .xor (.int k a) (.int k b)=some (.int k (k.wrap (BitVec.ofInt k.bits a ^^^ BitVec.ofInt k.bits b).toNat)):=by simp [binT]
theorem bi_eql (k:IntKind) (a b:Int):binT .eql (.int k a) (.int k b)=some (.bool (a==b)):=by simp [binT]
theorem bi_neq (k:IntKind) (a b:Int):binT .neq (.int k a) (.int k b)=some (.bool (a != b)):=by simp [binT]
theorem bi_lss (k:IntKind) (a b:Int):binT .lss (.int k a) (.int k b)=some (.bool (a<b)):=by simp [binT]
theorem bi_leq (k:IntKind) (a b:Int):binT .leq (.int k a) (.int k b)=some (.bool (a≤b)):=by simp [binT]
theorem bi_gtr (k:IntKind) (a b:Int):binT .gtr (.int k a) (.int k b)=some (.bool (b<a)):=by simp [binT]
theorem bi_geq (k:IntKind) (a b:Int):binT .geq (.int k a) (.int k b)=some (.bool (b≤a)):=by simp [binT]
theorem bs_eql (a b:ByteArray):binT .eql (.str a) (.str b)=some (.bool (decide (a=b))):=by simp [binT,strEq_eq]
theorem bs_neq (a b:ByteArray):binT .neq (.str a) (.str b)=some (.bool (!decide (a=b))):=by simp [binT,strEq_eq]
theorem bs_lss (a b:ByteArray):binT .lss (.str a) (.str b)=some (.bool (strLt a b)):=by rfl
theorem bs_leq (a b:ByteArray):binT .leq (.str a) (.str b)=some (.bool (!strLt b a)):=by have:=not_le b a;simp only [binT,Option.some.injEq,T.bool.injEq];rw [← this];simp
theorem bs_gtr (a b:ByteArray):binT .gtr (.str a) (.str b)=some (.bool (strLt b a)):=by have:=not_le b a;simp only [binT,Option.some.injEq,T.bool.injEq];exact this
theorem bs_geq (a b:ByteArray):binT .geq (.str a) (.str b)=some (.bool (!strLt a b)):=by rfl
theorem bs_add (a b:ByteArray):binT .add (.str a) (.str b)=if a.size+b.size≤9223372036854775807 then some (.str (a++b)) else none:=rfl
theorem lit_lt (a b:Nat):decide ((a:Int)<(no_index (OfNat.ofNat b)))=decide (a<OfNat.ofNat b):=dlt a b
theorem lit_gt (a b:Nat):decide ((no_index (OfNat.ofNat b):Int)<(a:Int))=decide (OfNat.ofNat b<a):=dlt b a
theorem lit_le (a b:Nat):decide ((a:Int)≤(no_index (OfNat.ofNat b)))=decide (a≤OfNat.ofNat b):=dle a b
theorem lit_ge (a b:Nat):decide ((no_index (OfNat.ofNat b):Int)≤(a:Int))=decide (OfNat.ofNat b≤a):=dle b a
theorem lit_eq (a b:Nat):((a:Int)==(no_index (OfNat.ofNat b)))=decide (a=OfNat.ofNat b):=deq a b
theorem lit_ne (a b:Nat):((a:Int) != (no_index (OfNat.ofNat b)))=!decide (a=OfNat.ofNat b):=dne a b
theorem dge (a b:Nat):decide ((a:Int)≥(b:Int))=decide (b≤a):=by simp
set_option linter.defProp false in
theorem S1:type_of% (And.intro (@b_vf)<|And.intro (@evop.eq_37)<|And.intro (@evop.eq_38)<|And.intro (@evop.eq_43)<|And.intro (@evop.eq_44)<|And.intro (@evop.eq_45)<|And.intro (@ex_n)<|And.intro (@ex_r)<|And.intro (@ex_e)<|And.intro (@bnd.eq_1)<|And.intro (@bnd.eq_2)<|And.intro (@want_n)<|And.intro (@tr_imp)<|And.intro (@im_tr)<|And.intro (@imp_t)<|And.intro (@imp_f)<|And.intro (@step_n)<|And.intro (@List.nil_append.{0})<|And.intro (@List.append_nil.{0})<|And.intro (@List.cons_append.{0})<|And.intro (@er_int)<|And.intro (@er_str)<|And.intro (@er_bool)<|And.intro (@er_sl)<|And.intro (@er_ptr)<|And.intro (@er_map)<|And.intro (@er_nilm)<|And.intro (@er_nilp)<|And.intro (@el_sl)<|And.intro (@partsT.eq_1)<|And.intro (@partsT.eq_2)<|And.intro (@fillT.eq_1)<|And.intro (@fillT.eq_2)<|And.intro (@fillE.eq_1)<|And.intro (@fillE.eq_2)<|And.intro (@fillM.eq_1)<|And.intro (@fillM.eq_2)<|And.intro (@List.replicate_zero.{0})<|And.intro (@List.replicate_succ.{0})<|And.intro (@List.set_cons_zero.{0})<|And.intro (@List.set_cons_succ.{0})<|And.intro (@List.all_cons.{0})<|And.intro (@List.all_nil.{0})<|And.intro (@Bool.and_true)<|And.intro (@Bool.true_and)<|And.intro (@ldc_iptr)<|And.intro (@ldc_ptr)<|And.intro (@ldcB_c)<|And.intro (@stc_ptr)<|And.intro (@stcB_c)<|And.intro (@fad_ptr)<|And.intro (@lit_lt)<|And.intro (@lit_gt)<|And.intro (@lit_le)<|And.intro (@lit_ge)<|And.intro (@lit_eq)<|And.intro (@lit_ne)<|And.intro (@b_nil)<|And.intro (@b_b)<|And.intro (@b_g)<|And.intro (@b_c)<|And.intro (@b_cg)<|And.intro (@step_s)<|And.intro (@grd_t)<|And.intro (@grd_f)<|And.intro (@grdc_t)<|And.intro (@grdc_f)<|And.intro (@c_skip)<|And.intro (@c_ops)<|And.intro (@norm_ap)<|And.intro (@c_seq)<|And.intro (@c_cond)<|And.intro (@c_block)<|And.intro (@c_exit)<|And.intro (@c_ret)<|And.intro (@c_loop)<|And.intro (@c_range)<|And.intro (@cont_ap)<|And.intro (@cond_t)<|And.intro (@cond_f)<|And.intro (@then_n)<|And.intro (@then_r)<|And.intro (@then_e)<|And.intro (@blk_n)<|And.intro (@blk_r)<|And.intro (@blk_e)<|And.intro (@Bool.false_eq_true)<|And.intro (@want_t)<|And.intro (@want_f)<|And.intro (@isT_b)<|And.intro (@isF_b)<|And.intro (@isT_u)<|And.intro (@isF_u)<|And.intro (@retg_val)<|And.intro (@retg_same)<|And.intro (@List.length_cons.{0})<|And.intro (@List.length_nil.{0})<|And.intro (@List.drop_succ_cons.{0})<|And.intro (@List.drop_zero.{0})<|And.intro (@List.take_succ_cons.{0})<|And.intro (@List.take_zero.{0})<|And.intro (@cells_agg)<|And.intro (@cells_int)<|And.intro (@cells_str)<|And.intro (@cells_bool)<|And.intro (@cells_sl)<|And.intro (@cells_msl)<|And.intro (@cells_map)<|And.intro (@cells_ptr)<|And.intro (@cells_nilm)<|And.intro (@cells_nilp)<|And.intro (@fadT.eq_1)<|And.intro (@fadT.eq_2)<|And.intro (@Nat.zero_add)<|And.intro (@ev_r)<|And.intro (@ev_c)<|And.intro (@stB.eq_1)<|And.intro (@stB.eq_2)<|And.intro (@updo_s)<|And.intro (@updo_n)<|And.intro (@upd_ap)<|And.intro (@regs0_0)<|And.intro (@regs0_1)<|And.intro (@regs0_2)<|And.intro (@regs0_3)<|And.intro (@regs0_4)<|And.intro (@true_and)<|And.intro (@and_true)<|And.intro (@Option.map_some.{0,0})<|And.intro (@Option.bind_some.{0,0})<|And.intro (@un_not)<|And.intro (@lenT.eq_1)<|And.intro (@lenT.eq_2)<|And.intro (@lenT.eq_3)<|And.intro (@lenT.eq_4)<|And.intro (@lenT.eq_5)<|And.intro (@natOf_nat)<|And.intro (@val1)<|And.intro (@valA)<|And.intro (@endQ.eq_1)<|And.intro (@endQ.eq_2)<|And.intro (@resT.eq_1)<|And.intro (@resL.eq_1)<|And.intro (@resL.eq_2)<|And.intro (@resV.eq_1)<|And.intro (@resV.eq_2)<|And.intro (@tup1)<|And.intro (@tup2)<|And.intro (@tup3)<|And.intro (@dlt)<|And.intro (@dle)<|And.intro (@deq)<|And.intro (@dne)<|And.intro (@List.map_cons.{0,0})<|And.intro (@List.map_nil.{0,0})<|And.intro (@decide_true)<|And.intro (@decide_false)<|And.intro (@strEq_eq)<|And.intro (@Bool.not_true)<|And.intro (@Bool.not_false)<|And.intro (@beq_self_eq_true.{0})<|And.intro (@bne_self_eq_false.{0})<|And.intro (@List.getElem?_cons_zero.{0})<|And.intro (@List.getElem?_cons_succ.{0})<|And.intro (@List.getElem?_nil.{0})<|And.intro (@List.length_map.{0,0})<|And.intro (@ret_val)<|And.intro (@T.bool.injEq)<|And.intro (@T.int.injEq)<|And.intro (@T.str.injEq)<|And.intro (@T.tup.injEq)<|And.intro (@evop.eq_1)<|And.intro (@evop.eq_2)<|And.intro (@evop.eq_3)<|And.intro (@evop.eq_4)<|And.intro (@evop.eq_5)<|And.intro (@evop.eq_6)<|And.intro (@evop.eq_7)<|And.intro (@evop.eq_8)<|And.intro (@evop.eq_9)<|And.intro (@evop.eq_10)<|And.intro (@evop.eq_11)<|And.intro (@evop.eq_12)<|And.intro (@evop.eq_13)<|And.intro (@evop.eq_14)<|And.intro (@evop.eq_15)<|And.intro (@evop.eq_16)<|And.intro (@evop.eq_17)<|And.intro (@evop.eq_18)<|And.intro (@evop.eq_19)<|And.intro (@evop.eq_20)<|And.intro (@evop.eq_21)<|And.intro (@evop.eq_22)<|And.intro (@evop.eq_23)<|And.intro (@evop.eq_24)<|And.intro (@evop.eq_25)<|And.intro (@evop.eq_26)<|And.intro (@ev_del)<|And.intro (@delV_map)<|And.intro (@ev_rng)<|And.intro (@rngV_map)<|And.intro (@rngB_M)<|And.intro (@ev_nxt)<|And.intro (@ev_ent)<|And.intro (@entV_ptr)<|And.intro (@entB_I)<|And.intro (@entC_R)<|And.intro (@ev_clr)<|And.intro (@clrV_msl)<|And.intro (@evop.eq_30)<|And.intro (@evop.eq_31)<|And.intro (@evop.eq_32)<|And.intro (@evop.eq_33)<|And.intro (@evop.eq_34)<|And.intro (@evop.eq_35)<|And.intro (@evop.eq_36)<|And.intro (@ev_lkp)<|And.intro (@ev_upm)<|And.intro (@lkpV_map)<|And.intro (@lkpB_M)<|And.intro (@lkpB_N)<|And.intro (@upmV_map)<|And.intro (@upmB_M)<|And.intro (@upmB_N)<|And.intro (@lkp_some)<|And.intro (@lkp_none)<|And.intro (@lkp_some2)<|And.intro (@lkp_none2)<|And.intro (@bi_add)<|And.intro (@bi_sub)<|And.intro (@bi_mul)<|And.intro (@bi_quo)<|And.intro (@bi_rem)<|And.intro (@bi_shl)<|And.intro (@bi_shr)<|And.intro (@bi_and)<|And.intro (@bi_or)<|And.intro (@bi_xor)<|And.intro (@bi_eql)<|And.intro (@bi_neq)<|And.intro (@bi_lss)<|And.intro (@bi_leq)<|And.intro (@bi_gtr)<|And.intro (@bi_geq)<|And.intro (@bs_eql)<|And.intro (@bs_neq)<|And.intro (@bs_lss)<|And.intro (@bs_leq)<|And.intro (@bs_gtr)<|And.intro (@bs_geq)<|(@bs_add)):=And.intro (@b_vf)<|And.intro (@evop.eq_37)<|And.intro (@evop.eq_38)<|And.intro (@evop.eq_43)<|And.intro (@evop.eq_44)<|And.intro (@evop.eq_45)<|And.intro (@ex_n)<|And.intro (@ex_r)<|And.intro (@ex_e)<|And.intro (@bnd.eq_1)<|And.intro (@bnd.eq_2)<|And.intro (@want_n)<|And.intro (@tr_imp)<|And.intro (@im_tr)<|And.intro (@imp_t)<|And.intro (@imp_f)<|And.intro (@step_n)<|And.intro (@List.nil_append.{0})<|And.intro (@List.append_nil.{0})<|And.intro (@List.cons_append.{0})<|And.intro (@er_int)<|And.intro (@er_str)<|And.intro (@er_bool)<|And.intro (@er_sl)<|And.intro (@er_ptr)<|And.intro (@er_map)<|And.intro (@er_nilm)<|And.intro (@er_nilp)<|And.intro (@el_sl)<|And.intro (@partsT.eq_1)<|And.intro (@partsT.eq_2)<|And.intro (@fillT.eq_1)<|And.intro (@fillT.eq_2)<|And.intro (@fillE.eq_1)<|And.intro (@fillE.eq_2)<|And.intro (@fillM.eq_1)<|And.intro (@fillM.eq_2)<|And.intro (@List.replicate_zero.{0})<|And.intro (@List.replicate_succ.{0})<|And.intro (@List.set_cons_zero.{0})<|And.intro (@List.set_cons_succ.{0})<|And.intro (@List.all_cons.{0})<|And.intro (@List.all_nil.{0})<|And.intro (@Bool.and_true)<|And.intro (@Bool.true_and)<|And.intro (@ldc_iptr)<|And.intro (@ldc_ptr)<|And.intro (@ldcB_c)<|And.intro (@stc_ptr)<|And.intro (@stcB_c)<|And.intro (@fad_ptr)<|And.intro (@lit_lt)<|And.intro (@lit_gt)<|And.intro (@lit_le)<|And.intro (@lit_ge)<|And.intro (@lit_eq)<|And.intro (@lit_ne)<|And.intro (@b_nil)<|And.intro (@b_b)<|And.intro (@b_g)<|And.intro (@b_c)<|And.intro (@b_cg)<|And.intro (@step_s)<|And.intro (@grd_t)<|And.intro (@grd_f)<|And.intro (@grdc_t)<|And.intro (@grdc_f)<|And.intro (@c_skip)<|And.intro (@c_ops)<|And.intro (@norm_ap)<|And.intro (@c_seq)<|And.intro (@c_cond)<|And.intro (@c_block)<|And.intro (@c_exit)<|And.intro (@c_ret)<|And.intro (@c_loop)<|And.intro (@c_range)<|And.intro (@cont_ap)<|And.intro (@cond_t)<|And.intro (@cond_f)<|And.intro (@then_n)<|And.intro (@then_r)<|And.intro (@then_e)<|And.intro (@blk_n)<|And.intro (@blk_r)<|And.intro (@blk_e)<|And.intro (@Bool.false_eq_true)<|And.intro (@want_t)<|And.intro (@want_f)<|And.intro (@isT_b)<|And.intro (@isF_b)<|And.intro (@isT_u)<|And.intro (@isF_u)<|And.intro (@retg_val)<|And.intro (@retg_same)<|And.intro (@List.length_cons.{0})<|And.intro (@List.length_nil.{0})<|And.intro (@List.drop_succ_cons.{0})<|And.intro (@List.drop_zero.{0})<|And.intro (@List.take_succ_cons.{0})<|And.intro (@List.take_zero.{0})<|And.intro (@cells_agg)<|And.intro (@cells_int)<|And.intro (@cells_str)<|And.intro (@cells_bool)<|And.intro (@cells_sl)<|And.intro (@cells_msl)<|And.intro (@cells_map)<|And.intro (@cells_ptr)<|And.intro (@cells_nilm)<|And.intro (@cells_nilp)<|And.intro (@fadT.eq_1)<|And.intro (@fadT.eq_2)<|And.intro (@Nat.zero_add)<|And.intro (@ev_r)<|And.intro (@ev_c)<|And.intro (@stB.eq_1)<|And.intro (@stB.eq_2)<|And.intro (@updo_s)<|And.intro (@updo_n)<|And.intro (@upd_ap)<|And.intro (@regs0_0)<|And.intro (@regs0_1)<|And.intro (@regs0_2)<|And.intro (@regs0_3)<|And.intro (@regs0_4)<|And.intro (@true_and)<|And.intro (@and_true)<|And.intro (@Option.map_some.{0,0})<|And.intro (@Option.bind_some.{0,0})<|And.intro (@un_not)<|And.intro (@lenT.eq_1)<|And.intro (@lenT.eq_2)<|And.intro (@lenT.eq_3)<|And.intro (@lenT.eq_4)<|And.intro (@lenT.eq_5)<|And.intro (@natOf_nat)<|And.intro (@val1)<|And.intro (@valA)<|And.intro (@endQ.eq_1)<|And.intro (@endQ.eq_2)<|And.intro (@resT.eq_1)<|And.intro (@resL.eq_1)<|And.intro (@resL.eq_2)<|And.intro (@resV.eq_1)<|And.intro (@resV.eq_2)<|And.intro (@tup1)<|And.intro (@tup2)<|And.intro (@tup3)<|And.intro (@dlt)<|And.intro (@dle)<|And.intro (@deq)<|And.intro (@dne)<|And.intro (@List.map_cons.{0,0})<|And.intro (@List.map_nil.{0,0})<|And.intro (@decide_true)<|And.intro (@decide_false)<|And.intro (@strEq_eq)<|And.intro (@Bool.not_true)<|And.intro (@Bool.not_false)<|And.intro (@beq_self_eq_true.{0})<|And.intro (@bne_self_eq_false.{0})<|And.intro (@List.getElem?_cons_zero.{0})<|And.intro (@List.getElem?_cons_succ.{0})<|And.intro (@List.getElem?_nil.{0})<|And.intro (@List.length_map.{0,0})<|And.intro (@ret_val)<|And.intro (@T.bool.injEq)<|And.intro (@T.int.injEq)<|And.intro (@T.str.injEq)<|And.intro (@T.tup.injEq)<|And.intro (@evop.eq_1)<|And.intro (@evop.eq_2)<|And.intro (@evop.eq_3)<|And.intro (@evop.eq_4)<|And.intro (@evop.eq_5)<|And.intro (@evop.eq_6)<|And.intro (@evop.eq_7)<|And.intro (@evop.eq_8)<|And.intro (@evop.eq_9)<|And.intro (@evop.eq_10)<|And.intro (@evop.eq_11)<|And.intro (@evop.eq_12)<|And.intro (@evop.eq_13)<|And.intro (@evop.eq_14)<|And.intro (@evop.eq_15)<|And.intro (@evop.eq_16)<|And.intro (@evop.eq_17)<|And.intro (@evop.eq_18)<|And.intro (@evop.eq_19)<|And.intro (@evop.eq_20)<|And.intro (@evop.eq_21)<|And.intro (@evop.eq_22)<|And.intro (@evop.eq_23)<|And.intro (@evop.eq_24)<|And.intro (@evop.eq_25)<|And.intro (@evop.eq_26)<|And.intro (@ev_del)<|And.intro (@delV_map)<|And.intro (@ev_rng)<|And.intro (@rngV_map)<|And.intro (@rngB_M)<|And.intro (@ev_nxt)<|And.intro (@ev_ent)<|And.intro (@entV_ptr)<|And.intro (@entB_I)<|And.intro (@entC_R)<|And.intro (@ev_clr)<|And.intro (@clrV_msl)<|And.intro (@evop.eq_30)<|And.intro (@evop.eq_31)<|And.intro (@evop.eq_32)<|And.intro (@evop.eq_33)<|And.intro (@evop.eq_34)<|And.intro (@evop.eq_35)<|And.intro (@evop.eq_36)<|And.intro (@ev_lkp)<|And.intro (@ev_upm)<|And.intro (@lkpV_map)<|And.intro (@lkpB_M)<|And.intro (@lkpB_N)<|And.intro (@upmV_map)<|And.intro (@upmB_M)<|And.intro (@upmB_N)<|And.intro (@lkp_some)<|And.intro (@lkp_none)<|And.intro (@lkp_some2)<|And.intro (@lkp_none2)<|And.intro (@bi_add)<|And.intro (@bi_sub)<|And.intro (@bi_mul)<|And.intro (@bi_quo)<|And.intro (@bi_rem)<|And.intro (@bi_shl)<|And.intro (@bi_shr)<|And.intro (@bi_and)<|And.intro (@bi_or)<|And.intro (@bi_xor)<|And.intro (@bi_eql)<|And.intro (@bi_neq)<|And.intro (@bi_lss)<|And.intro (@bi_leq)<|And.intro (@bi_gtr)<|And.intro (@bi_geq)<|And.intro (@bs_eql)<|And.intro (@bs_neq)<|And.intro (@bs_lss)<|And.intro (@bs_leq)<|And.intro (@bs_gtr)<|And.intro (@bs_geq)<|(@bs_add)
theorem S2:type_of% (And.intro (@not_false_eq_true)<|And.intro (@ne_eq.{1})<|And.intro (@Nat.lt_succ_self)<|And.intro (@g_tail)<|And.intro (@g_app)<|And.intro (@g_eq)<|And.intro (@g_ne)<|And.intro (@s_tail)<|And.intro (@s_app)<|And.intro (@l_app)<|And.intro (@l_set)<|And.intro (@e_set)<|And.intro (@List.nil_append.{0})<|And.intro (@List.append_nil.{0})<|And.intro (@List.cons_append.{0}) (@List.drop_nil.{0})):=And.intro (@not_false_eq_true)<|And.intro (@ne_eq.{1})<|And.intro (@Nat.lt_succ_self)<|And.intro (@g_tail)<|And.intro (@g_app)<|And.intro (@g_eq)<|And.intro (@g_ne)<|And.intro (@s_tail)<|And.intro (@s_app)<|And.intro (@l_app)<|And.intro (@l_set)<|And.intro (@e_set)<|And.intro (@List.nil_append.{0})<|And.intro (@List.append_nil.{0})<|And.intro (@List.cons_append.{0}) (@List.drop_nil.{0})
theorem l_one (H:Heap) (x:B):(H++[x]).length=H.length+1:=by simp
theorem lt_s {b n:Nat} (h:b<n):(b<n+1)=True:=by simp;omega
theorem S3:type_of% (And.intro (@l_one)<|And.intro (@lt_s) (@Nat.add_assoc)):=And.intro (@l_one)<|And.intro (@lt_s) (@Nat.add_assoc)
section
variable {α:Type} {enc:α→List T} {n:Nat}
def msC (enc:α→List T) (xs:List α):List T:=xs.flatMap enc
theorem msC_len (hn:∀ x,(enc x).length=n):∀ xs:List α,(msC enc xs).length=xs.length*n
 | []=>by simp [msC]
 | x :: xs=>by
  have:=msC_len hn xs
  simp only [msC,List.flatMap_cons,List.length_append,hn,List.length_cons] at this ⊢
  rw [this,Nat.add_mul];omega
theorem msC_drop (hn:∀ x,(enc x).length=n):∀ (xs:List α) (i:Nat),(msC enc xs).drop (i*n)=msC enc (xs.drop i)
 | xs,0=>by simp
 | [],i+1=>by simp [msC]
 | x :: xs,i+1=>by
  have:=msC_drop hn xs i
  simp only [msC,List.flatMap_cons,List.drop_succ_cons] at this ⊢
  rw [show (i+1)*n=(enc x).length+i*n by rw [hn,Nat.add_mul];omega,List.drop_append,List.drop_eq_nil_of_le (by omega)]
  simp [this]
theorem msC_take (hn:∀ x,(enc x).length=n):∀ (xs:List α) (i:Nat),(msC enc xs).take (i*n)=msC enc (xs.take i)
 | xs,0=>by simp [msC]
 | [],i+1=>by simp [msC]
 | x :: xs,i+1=>by
  have:=msC_take hn xs i
  simp only [msC,List.flatMap_cons,List.take_succ_cons] at this ⊢
  rw [show (i+1)*n=(enc x).length+i*n by rw [hn,Nat.add_mul];omega,List.take_append,List.take_of_length_le (by omega)]
  simp [this]
theorem msC_get (hn:∀ x,(enc x).length=n) {xs:List α} {i:Nat} {x:α} (hx:xs[i]?=some x) (off m:Nat) (h:off+m≤n):ldcB m (i*n+off) (some (.cells (msC enc xs)))=some (((enc x).drop off).take m):=by
 have hi:=(List.getElem?_eq_some_iff.1 hx).1
 have h1:i*n+n≤xs.length*n:=by rw [← Nat.succ_mul];exact Nat.mul_le_mul_right n hi
 have e:(msC enc xs).drop (i*n)=enc x++msC enc (xs.drop (i+1)):=by
  rw [msC_drop hn,List.drop_eq_getElem_cons hi]
  have:xs[i]=x:=(List.getElem?_eq_some_iff.1 hx).2
  rw [this];rfl
 rw [ldcB_c,if_pos (by rw [msC_len hn];omega),← List.drop_drop,e,List.drop_append,List.take_append,hn]
 rw [show m-((enc x).drop off).length=0 by rw [List.length_drop,hn];omega]
 simp
theorem msC_set (hn:∀ x,(enc x).length=n) {xs:List α} {i:Nat} {x y:α} (hx:xs[i]?=some x) (H:Heap) (b:Nat) (vs:List T) (off:Nat) (h:off+vs.length≤n) (hy:enc y=(enc x).take off++vs++(enc x).drop (off+vs.length)) :
  stcB H b vs (i*n+off) (some (.cells (msC enc xs)))=some (H.set b (.cells (msC enc (xs.set i y)))):=by
 have hi:=(List.getElem?_eq_some_iff.1 hx).1
 have hxi:xs[i]=x:=(List.getElem?_eq_some_iff.1 hx).2
 have h1:i*n+n≤xs.length*n:=by rw [← Nat.succ_mul];exact Nat.mul_le_mul_right n hi
 rw [stcB_c,if_pos (by rw [msC_len hn];omega)]
 have e:(msC enc xs).drop (i*n)=enc x++msC enc (xs.drop (i+1)):=by
  rw [msC_drop hn,List.drop_eq_getElem_cons hi,hxi];rfl
 have t:(msC enc xs).take (i*n+off)=msC enc (xs.take i)++(enc x).take off:=by
  rw [List.take_add,msC_take hn,e,List.take_append,hn,show off-n=0 by omega];simp
 have d:(msC enc xs).drop (i*n+off+vs.length)=(enc x).drop (off+vs.length)++msC enc (xs.drop (i+1)):=by
  rw [Nat.add_assoc,← List.drop_drop,e,List.drop_append,hn,show off+vs.length-n=0 by omega];simp
 rw [t,d]
 have:xs.set i y=xs.take i++y :: xs.drop (i+1):=by rw [List.set_eq_take_append_cons_drop,if_pos hi]
 rw [this]
 simp only [msC,List.flatMap_append,List.flatMap_cons,hy,List.append_assoc]
theorem msC_rep (k:Nat) (z:α):(List.replicate k (enc z)).flatten=msC enc (List.replicate k z):=by
 induction k with
 | zero=>rfl
 | succ k ih=>simp only [List.replicate_succ,List.flatten_cons,ih,msC,List.flatMap_cons]
end
theorem iad_m (n i b off len:Nat):iadT n i (.msl b off len n)=if i<len then if n=0 then none else some (.ptr b (off+i*n)) else none:=by
 simp only [iadT,true_and,ne_eq]
 by_cases h:i<len <;> by_cases h':n=0 <;> simp [h,h']
def eU (n:Nat):List T:=[.int .u64 n]
def eI (n:Nat):List T:=[.int .i64 n]
theorem eU_len (x:Nat):(eU x).length=1:=rfl
theorem msU_get {xs:List Nat} {i x:Nat} (hx:xs[i]?=some x):ldcB 1 (i*1) (some (.cells (msC eU xs)))=some [.int .u64 x]:=msC_get eU_len hx 0 1 (by decide)
theorem msU_set {xs:List Nat} {i x:Nat} (hx:xs[i]?=some x) (H:Heap) (b y:Nat):stcB H b [.int .u64 y] (i*1) (some (.cells (msC eU xs)))=some (H.set b (.cells (msC eU (xs.set i y)))):=msC_set (y:=y) eU_len hx H b [.int .u64 y] 0 (by simp) rfl
def Apd (n0:Nat) (H:Heap) (k:SK):Prop:=k=.nil∨k=.full∨∃ t e,k=.own t e∧n0≤t∧H[t]?=some (.tok e)
structure Stay (n0:Nat) (H:Heap) (k:SK) (H':Heap):Prop where
 len:H.length≤H'.length
 get:∀ b x,H[b]?=some x→(∀ e,k≠.own b e)→H'[b]?=some x
 ext:∀ H0:Heap,H0.length≤n0→Ext H0 H→Ext H0 H'
theorem Stay.cells {n0:Nat} {H H':Heap} {k:SK} (h:Stay n0 H k H') (ha:Apd n0 H k) {b:Nat} {x:B} (hx:H[b]?=some x) (ht:∀ e,x≠.tok e):H'[b]?=some x:=h.get b x hx fun e he=>by
 rcases ha with h | h | ⟨t,e',h,_,h'⟩
 ·rw [he] at h;cases h
 ·rw [he] at h;cases h
 ·rw [he] at h;cases h;rw [hx] at h';cases h';exact ht _ rfl
theorem app_ok {n0:Nat} {H:Heap} {k:SK} {bytes:Nat} (es new:List (List T)) (hk:Apd n0 H k) (hn0:n0≤H.length) (hnew:new≠[]) (hr:roomOk (es.length+new.length) bytes=true) :
  ∃ k' H',appT H bytes k es new=some (.sl k' (es++new.map (·.map T.erase)),H')∧Apd n0 H' k'∧Stay n0 H k H':=by
 unfold appT
 cases new with
 | nil=>exact absurd rfl hnew
 | cons c new =>
  simp only [hr,if_true]
  rcases hk with rfl | rfl | ⟨t,e,rfl,ht,hg⟩
  ·exact ⟨_,_,rfl,.inr (.inr ⟨_,_,rfl,hn0,g_tail rfl⟩),⟨by simp,fun b x hx _=>by rw [g_app (glt hx)];exact hx,fun H0 _ h=>h.app _⟩⟩
  ·exact ⟨_,_,rfl,.inr (.inr ⟨_,_,rfl,hn0,g_tail rfl⟩),⟨by simp,fun b x hx _=>by rw [g_app (glt hx)];exact hx,fun H0 _ h=>h.app _⟩⟩
  ·simp only [hg,if_true]
   refine ⟨_,_,rfl,.inr (.inr ⟨_,_,rfl,ht,g_eq (glt hg)⟩),⟨by simp,fun b x hx hne=>?_,fun H0 h0 h=>h.set (Nat.le_trans h0 ht) _⟩⟩
   have:t≠b:=fun h=>hne e (by rw [h])
   rw [g_ne this];exact hx
theorem apd_nil (n0:Nat) (H:Heap):Apd n0 H .nil:=.inl rfl
theorem Apd.ext {n0:Nat} {H H':Heap} {k:SK} (h:Apd n0 H k) (hx:Ext H H'):Apd n0 H' k:=by
 rcases h with h | h | ⟨t,e,h,h1,h2⟩
 ·exact .inl h
 ·exact .inr (.inl h)
 ·exact .inr (.inr ⟨t,e,h,h1,hx.get h2⟩)
theorem Apd.set {n0:Nat} {H:Heap} {k:SK} (h:Apd n0 H k) {c:Nat} {x:B} (hx:H[c]?=some x) (ht:∀ e,x≠.tok e) (y:B):Apd n0 (H.set c y) k:=by
 rcases h with h | h | ⟨t,e,h,h1,h2⟩
 ·exact .inl h
 ·exact .inr (.inl h)
 ·refine .inr (.inr ⟨t,e,h,h1,?_⟩)
  have:c≠t:=fun he=>by subst he;rw [hx] at h2;cases h2;exact ht _ rfl
  rw [g_ne this];exact h2
theorem endR_r {n b:Nat} {res:List Rs} {Q:Out→Heap→Prop} {R:Regs} {H:Heap} (h:R n=.tup [.ptr b 0]) (hd:H[b]?=some .dfr)
  (hq:match resT R (H.set b .dead) res with | some v=>Q (.val v) (H.set b .dead) | none=>False):endR n res Q (.ex .ret R) H :=
 ⟨[b],by rw [h];rfl,by simp,by simp [hd],hq⟩
theorem endR_0 {n:Nat} {res:List Rs} {Q:Out→Heap→Prop} {R:Regs} {H:Heap} (h:R n=.tup [])
  (hq:match resT R H res with | some v=>Q (.val v) H | none=>False):endR n res Q (.ex .ret R) H :=
 ⟨[],by rw [h];rfl,by simp,by simp,hq⟩
theorem push0 (b:Nat):pushMark (.tup []) b=.tup [.ptr b 0]:=rfl
theorem roomT {n m:Nat} (h:(n+n / 4+512)*m≤281474976710656):roomOk n m=true:=by simp [roomOk,h]
theorem all_map {α:Type} {enc:α→List T} {n:Nat} (hn:∀ x,(enc x).length=n) (l:List α):(l.map enc).all (fun c=>c.length==n)=true:=by simp [hn]
def Mut {α:Type} (enc:α→List T) (n n0:Nat) (H:Heap) (t:T) (l:List α):Prop :=
 (l=[]∧t=.sl .nil [])∨∃ b,t=.msl b 0 l.length n∧H[b]?=some (.cells (msC enc l))∧n0≤b
theorem mut_nil {α:Type} (enc:α→List T) (n n0:Nat) (H:Heap):Mut enc n n0 H (.sl .nil []) []:=.inl ⟨rfl,rfl⟩
theorem Mut.ext {α:Type} {enc:α→List T} {n n0:Nat} {H H':Heap} {t:T} {l:List α} (h:Mut enc n n0 H t l) (hx:Ext H H'):Mut enc n n0 H' t l:=by
 rcases h with h | ⟨b,h1,h2,h3⟩
 ·exact .inl h
 ·exact .inr ⟨b,h1,hx.get h2,h3⟩
theorem Mut.len {α:Type} {enc:α→List T} {n n0:Nat} {H:Heap} {t:T} {l:List α} (h:Mut enc n n0 H t l):lenT H .sl t=some l.length:=by
 rcases h with ⟨rfl,rfl⟩ | ⟨b,rfl,_,_⟩ <;> rfl
structure StayM (n0:Nat) (H:Heap) (t:T) (H':Heap):Prop where
 len:H.length≤H'.length
 get:∀ b x,H[b]?=some x→(∀ off len n,t≠.msl b off len n)→H'[b]?=some x
 ext:∀ H0:Heap,H0.length≤n0→Ext H0 H→Ext H0 H'
theorem appM_ok {α:Type} {enc:α→List T} {n n0:Nat} (hn:∀ x,(enc x).length=n) {H:Heap} {t:T} {l:List α} {bytes:Nat} (new:List α) (h:Mut enc n n0 H t l) (hn0:n0≤H.length) (hnew:new≠[]) (hr:roomOk (l.length+new.length) bytes=true) :
  ∃ t' H',appM H n bytes t (new.map enc)=some (t',H')∧Mut enc n n0 H' t' (l++new)∧StayM n0 H t H':=by
 have hfl:(new.map enc).flatten=msC enc new:=by simp [msC,List.flatMap]
 have happ:∀ l:List α,msC enc l++msC enc new=msC enc (l++new):=fun l=>by simp [msC]
 unfold appM
 cases new with
 | nil=>exact absurd rfl hnew
 | cons c new =>
  rcases h with ⟨rfl,rfl⟩ | ⟨b,rfl,hb,hb0⟩
  ·simp only [List.map_cons,List.length_cons,List.length_nil,List.length_map,Nat.zero_add] at hr hfl ⊢
   simp only [hr,and_true,if_true]
   refine ⟨_,_,rfl,.inr ⟨H.length,by simp,?_,hn0⟩,⟨by simp,fun b x hx _=>by rw [g_app (glt hx)];exact hx,fun H0 _ h=>h.app _⟩⟩
   rw [g_tail rfl,hfl];rfl
  ·have hc:l.length*n=(msC enc l).length:=(msC_len hn l).symm
   simp only [List.map_cons,List.length_cons,List.length_map] at hr hfl ⊢
   simp only [hb,hc,hr,and_self,if_true]
   refine ⟨_,_,rfl,.inr ⟨H.length,by simp,?_,hn0⟩,⟨by simp,fun b' x hx hne=>?_,fun H0 h0 h=>(h.set (Nat.le_trans h0 hb0) _).app _⟩⟩
   ·rw [g_tail (by simp),hfl,happ]
   ·have hbb:b≠b':=fun e=>hne 0 l.length n (by rw [e])
    rw [g_app (by rw [List.length_set];exact glt hx),g_ne hbb];exact hx
theorem frzE_ms {α:Type} {enc:α→List T} {n:Nat} (hn:∀ x,(enc x).length=n) (l:List α):frzE (msC enc l) 0 l.length n=l.map enc:=by
 unfold frzE
 refine List.ext_getElem? fun i=>?_
 by_cases hi:i<l.length
 ·have:=msC_get hn (List.getElem?_eq_getElem hi) 0 n (by omega)
  rw [ldcB_c] at this
  split at this
  ·simp only [Option.some.injEq,Nat.add_zero,List.drop_zero] at this
   simp only [List.getElem?_map,List.getElem?_range hi,Option.map_some,Nat.zero_add,this,List.getElem?_eq_getElem hi]
   rw [List.take_of_length_le (by rw [hn];omega)]
  ·cases this
 ·rw [List.getElem?_eq_none (by simp;omega),List.getElem?_eq_none (by simp;omega)]
end Go.Rmp
end
