/- Part of a proof of a law of this seat: the machine of plain values, its simulation, and the contracts of the functions that the law reaches. Conditions: none beyond the given row. -/
import Derived.Test.YtodegnhallgnkaaM0
import Derived.RangeFuncRecord
import Derived.RangeFuncIn
import Derived.OpenShut
import Derived.RowKit3
import Derived.ChangeSame
import Derived.ReadAgain
import Derived.ChangeCalls
import Derived.Deep.Frames
import Derived.Laws.Strings
open Int renaming reduceLT → q6, reduceLE → q7, reduceBEq → q8, reduceBNe → q9, reduceEq → y1
open Nat renaming reduceAdd → y2, reduceLeDiff → y3, reduceLT → y4, reduceEqDiff → y5
set_option linter.unusedSimpArgs false
set_option linter.unusedVariables false
set_option linter.unnecessarySimpa false
set_option maxHeartbeats 4000000
section
namespace Go.Rmp
section
variable {P:Program} {w0 w:World} {g:Ctx} {H H':ae} {R:aj} {ρ:Operand→Value} {t:T}
theorem dZ {ty:TypeId}{z:List T}(h:zeroOf P ty=some z):∃i zv,P.info? ty=some i∧i.zero=some zv∧dt zv.cells.toList=some z:=by
 unfold zeroOf at h
 cases h1:P.info? ty with
 | none=>simp[h1]at h
 | some i =>
  simp only[h1]at h
  cases h2:i.zero with
  | none=>simp[h2]at h
  | some zv=>simp only[h2]at h;exact⟨i,zv,rfl,h2,h⟩
theorem tN {fV:List TypeId}{rt:TypeId}{mu:Bool}{as:List X}{vs:List Value}{b:Bo}(hc:jk P mu fV as=some b)(h:SR w0 g H w)(hv:aW g w (as.map (X.ev R)) vs)(he:ai R H b=some (t,H')) :
  br P w0 g H w (Builtin.append_ fV.toArray rt vs.toArray) t H':=by
 unfold jk at hc
 split at hc
 ·rename_i sT xT x y
  cases vs with
  | nil=>have:=hv.1;simp at this
  | cons vx vs =>
   cases vs with
   | nil=>have:=hv.1;simp at this
   | cons vy vs =>
    cases vs with
    | cons _ _=>have:=hv.1;simp at this
    | nil =>
     have hx:VR g w (x.ev R) vx:=hv.head
     have hy:VR g w (y.ev R) vy:=hv.tail.head
     cases hs:P.underlying sT with
     | none=>simp[hs]at hc
     | some ds =>
      cases Cw:P.underlying xT with
      | none=>cases ds<;>simp[hs,Cw]at hc
      | some dx =>
       cases ds<;>simp only[hs,Cw]at hc<;>(try (cases hc;done))
       rename_i e
       cases hi:P.info? e with
       | none=>simp[hi]at hc
       | some ei =>
        simp only[hi]at hc
        cases hz:ei.zero with
        | none=>simp[hz]at hc
        | some zv =>
         simp only[hz]at hc
         split at hc
         ·rename_i bF
          simp only[Bool.and_eq_true,beq_iff_eq,bne_iff_ne]at bF
          simp at hc;subst hc
          have E:lE P sT xT e ei zv ei.size ei.bytes:=⟨hs,hi,⟨dx,Cw,fun k e=>by subst e;simp[yN]at bF⟩,rfl,hz,bF.1.2,rfl,bF.2⟩
          simp only[ai]at he
          cases oQ:aP H ei.size (y.ev R)with
          | none=>simp[oQ]at he
          | some new =>
           simp only[oQ]at he
           cases mu with
           | true =>
            simp only[if_true]at he
            exact yE E h hx.wz hy oQ he
           | false =>
            simp only[Bool.false_eq_true,if_false]at he
            generalize x.ev R=tx at hx he
            cases tx<;>(try simp only[reduceCtorEq]at he)
            split at he
            ·rename_i dI
             exact Cm E h hx hy dI oQ he
            ·cases he
         ·cases hc
 ·cases hc
theorem CH {fV:List TypeId}{rt:TypeId}{as:List X}{vs:List Value}{b:Bo}(hc:rM P fV as=some b)(h:SR w0 g H w)(hv:aW g w (as.map (X.ev R)) vs)(he:ai R H b=some (t,H')) :
  br P w0 g H w (Builtin.append_ fV.toArray rt vs.toArray) t H':=by
 unfold rM at hc
 split at hc
 ·rename_i sT xT x k
  cases vs with
  | nil=>have:=hv.1;simp at this
  | cons vx vs =>
   cases vs with
   | nil=>have:=hv.1;simp at this
   | cons vk vs =>
    cases vs with
    | cons _ _=>have:=hv.1;simp at this
    | nil =>
     have hx:VR g w (x.ev R) vx:=hv.head
     have hk:VR g w (k.ev R) vk:=hv.tail.head
     cases hs:P.underlying sT with
     | none=>simp[hs]at hc
     | some ds =>
      cases Cw:P.underlying xT with
      | none=>cases ds<;>simp[hs,Cw]at hc
      | some dx =>
       cases ds<;>cases dx<;>simp only[hs,Cw]at hc<;>(try (cases hc;done))
       rename_i e kn
       cases hi:P.info? e with
       | none=>simp[hi]at hc
       | some ei =>
        cases hz:zeroOf P e with
        | none=>simp[hi,hz]at hc
        | some z =>
         simp only[hi,hz]at hc
         split at hc
         ·rename_i bF
          simp only[bne_iff_ne,ne_eq]at bF
          simp only[Option.some.injEq]at hc;subst hc
          obtain⟨i,zv,h1,h2,h3⟩:=dZ hz
          rw[hi]at h1;cases h1
          simp only[ai,Option.bind_eq_some_iff]at he
          obtain⟨kk,cd,he⟩:=he
          generalize k.ev R=tk at hk cd
          cases hk<;>simp only[bB]at cd<;>(try (cases cd;done))
          rename_i kq m
          split at cd
          ·rename_i hm
           simp only[Option.some.injEq]at cd
           subst cd
           have:=Cv (rt:=rt) (kq:=kq) hs Cw hi h2 h3 bF h hx he
           rw[Int.toNat_of_nonneg hm]at this
           exact this
          ·cases cd
         ·cases hc
 ·cases hc
theorem CI {f:FuncId}{n:Nat}{x y:X}{args:Array Operand}{ρ:Operand→Value}(rl:u1 P f=some n)(h:SR w0 g H w)(gP:aW g w ([x,y].map (X.ev R)) (args.toList.map ρ))(he:wC H n (x.ev R) (y.ev R)=some (t,H')) :
  BE P w0 g H w (callFunc f (args.map ρ)) t H':=by
 unfold u1 at rl
 cases hf:P.funcs[f]? with
 | none=>simp[hf]at rl
 | some fn =>
  simp only[hf]at rl
  cases hp:fn.params[0]? with
  | none=>simp[hp]at rl
  | some tS =>
   simp only[hp]at rl
   cases ht:P.underlying tS with
   | none=>simp[ht]at rl
   | some d =>
    cases d<;>simp only[ht]at rl<;>(try (cases rl;done))
    rename_i e
    cases hi:P.info? e with
    | none=>simp[hi]at rl
    | some ei =>
     simp only[hi]at rl
     split at rl
     ·rename_i hc
      simp only[Option.some.injEq]at rl;subst rl
      simp only[Bool.and_eq_true,Eb,Option.isNone_iff_eq_none,beq_iff_eq,bne_iff_ne,ne_eq]at hc
      obtain⟨⟨⟨⟨c1,c2⟩,c3⟩,c4⟩,⟨c5,c6⟩,c7⟩:=hc
      have JM:Extern.find fn=some (Extern.SlicesOverlaps.overlaps fn.params fn.resultTypes):=by
       have r1:Extern.allGenericRows.lookup "slices.overlaps"=none:=by kernel_rfl
       have r2:Extern.allTypedRows.lookup "slices.overlaps"=some Extern.SlicesOverlaps.overlaps:=by kernel_rfl
       unfold Extern.find
       simp only[c4,c5,c6,c7,r1,r2,Option.map_none,Option.map_some]
       rfl
      cases ha:args.toList.map ρ with
      | nil=>rw[ha]at gP;have:=gP.1;simp at this
      | cons vx vs =>
       cases vs with
       | nil=>rw[ha]at gP;have:=gP.1;simp at this
       | cons vy vs =>
        cases vs with
        | cons _ _=>rw[ha]at gP;have:=gP.1;simp at this
        | nil =>
         rw[ha]at gP
         have hx:VR g w (x.ev R) vx:=gP.head
         have hy:VR g w (y.ev R) vy:=gP.tail.head
         have kL:args.map ρ=#[vx,vy]:=by apply Array.ext';simp[ha]
         obtain⟨v,w',g',h1,h2,h3,h4,h5⟩:=Cx (results:=fn.resultTypes) hp ht hi h hx hy he
         refine⟨.value v,v,w',g',?_,.inl rfl,h2,h3,h4,h5⟩
         rw[kL,run_callFunc_extern hf (by simpa using c1) (by simp[c2]) c3 JM,h1]
         rfl
     ·cases rl
theorem rP {bi:Builtin}{fV:List TypeId}{rt:TypeId}{cs:Array Bool}{mu:Bool}{as:List X}{vs:List Value}{b:Bo}(hc:gz P mu bi fV as=some b)(h:SR w0 g H w)(hv:aW g w (as.map (X.ev R)) vs)(he:ai R H b=some (t,H')) :
  BE P w0 g H w (builtin bi fV.toArray rt cs vs.toArray) t H':=by
 have two:∀(x y:X),as=[x,y]→∃vx vy,vs=[vx,vy]∧VR g w (x.ev R) vx∧VR g w (y.ev R) vy:=by
  rintro x y rfl
  cases vs with
  | nil=>have:=hv.1;simp at this
  | cons vx vs =>
   cases vs with
   | nil=>have:=hv.1;simp at this
   | cons vy vs =>
    cases vs with
    | cons _ _=>have:=hv.1;simp at this
    | nil=>exact⟨vx,vy,rfl,hv.head,hv.tail.head⟩
 unfold gz at hc
 split at hc
 ·cases hz:rM P fV as with
  | some b'=>rw[hz]at hc;simp only[Option.some.injEq]at hc;subst hc;exact(CH hz h hv he).kb
  | none=>rw[hz]at hc;exact(tN hc h hv he).kb
 ·-- cap
  rename_i ty x
  cases vs with
  | nil=>have:=hv.1;simp at this
  | cons vx vs =>
   cases vs with
   | cons _ _=>have:=hv.1;simp at this
   | nil =>
    have hx:VR g w (x.ev R) vx:=hv.head
    cases hu:P.underlying ty with
    | none=>simp[hu]at hc
    | some d =>
     cases d<;>simp only[hu]at hc<;>(try (cases hc;done))
     simp only[Option.some.injEq]at hc;subst hc
     simp only[ai]at he
     generalize x.ev R=tx at hx he
     cases tx<;>simp only[reduceCtorEq,Option.some.injEq,Prod.mk.injEq]at he
     obtain⟨rfl,rfl⟩:=he
     exact(Cr hu h hx).kb
 ·-- copy
  rename_i dT sT x y
  obtain⟨vx,vy,rfl,hx,hy⟩:=two x y rfl
  cases hu:P.underlying dT with
  | none=>simp[hu]at hc
  | some d =>
   cases d<;>simp only[hu]at hc<;>(try (cases hc;done))
   rename_i e
   cases hi:P.info? e with
   | none=>simp[hi]at hc
   | some ei =>
    simp only[hi,Option.map_some,Option.some.injEq]at hc;subst hc
    simp only[ai]at he
    exact(Cs hu hi h hx hy he).kb
 ·-- len
  rename_i ty x
  cases vs with
  | nil=>have:=hv.1;simp at this
  | cons vx vs =>
   cases vs with
   | cons _ _=>have:=hv.1;simp at this
   | nil =>
    have hx:VR g w (x.ev R) vx:=hv.head
    cases hu:P.underlying ty with
    | none=>simp[hu]at hc
    | some d =>
     have hl:∃k,M7 k d=true∧b=.len k x:=by
      cases d<;>simp[hu]at hc
      ·exact⟨.str,rfl,hc.symm⟩
      ·exact⟨.sl,rfl,hc.symm⟩
      ·exact⟨.map,rfl,hc.symm⟩
     obtain⟨k,hk,rfl⟩:=hl
     simp only[ai,Option.map_eq_some_iff,Prod.mk.injEq]at he
     obtain⟨n,h1,rfl,rfl⟩:=he
     exact(B1 hu hk h hx h1).kb
 ·-- clear
  rename_i ty x
  cases vs with
  | nil=>have:=hv.1;simp at this
  | cons vx vs =>
   cases vs with
   | cons _ _=>have:=hv.1;simp at this
   | nil =>
    have hx:VR g w (x.ev R) vx:=hv.head
    cases hu:P.underlying ty with
    | none=>simp[hu]at hc
    | some d =>
     cases d<;>simp only[hu]at hc<;>(try (cases hc;done))
     rename_i e
     cases hi:P.info? e with
     | none=>simp[hi]at hc
     | some ei =>
      cases hz:zeroOf P e with
      | none=>simp[hi,hz]at hc
      | some z =>
       simp only[hi,hz,Option.some.injEq]at hc;subst hc
       obtain⟨i,zv,k1,k2,k3⟩:=dZ hz
       rw[hi]at k1;cases k1
       simp only[ai]at he
       generalize x.ev R=tx at hx he
       cases tx<;>(try (simp only[reduceCtorEq]at he;done))
       rename_i bb off len n'
       simp only at he
       cases hb:H[bb]? with
       | none=>simp[hb]at he
       | some y =>
        cases y<;>simp only[hb]at he<;>(try (cases he;done))
        rename_i Sx
        split at he
        ·rename_i ql
         obtain⟨rfl,rJ,hle⟩:=ql
         simp only[Option.some.injEq,Prod.mk.injEq]at he
         obtain⟨rfl,rfl⟩:=he
         exact(CD hu hi k2 k3 h hx hb rJ hle).kb
        ·cases he
 ·rename_i x y
  obtain⟨vx,vy,rfl,hx,hy⟩:=two x y rfl
  simp at hc;subst hc
  simp only[ai]at he
  generalize x.ev R=tx at hx he
  generalize y.ev R=FE at hy he
  cases tx<;>cases FE<;>simp only[reduceCtorEq,Option.some.injEq,Prod.mk.injEq]at he
  obtain⟨rfl,rfl⟩:=he
  exact(Fj h hx hy).kb
 ·rename_i x y
  obtain⟨vx,vy,rfl,hx,hy⟩:=two x y rfl
  simp at hc;subst hc
  simp only[ai]at he
  generalize x.ev R=tx at hx he
  generalize y.ev R=FE at hy he
  cases tx<;>cases FE<;>simp only[reduceCtorEq,Option.some.injEq,Prod.mk.injEq]at he
  obtain⟨rfl,rfl⟩:=he
  exact(Fk h hx hy).kb
 ·-- delete
  rename_i ty xt m k
  obtain⟨vm,vk,rfl,hm,hk⟩:=two m k rfl
  cases hu:P.underlying ty with
  | none=>simp[hu]at hc
  | some d =>
   cases d<;>simp only[hu]at hc<;>(try (cases hc;done))
   rename_i key elem
   cases gQ:qn P key with
   | none=>simp[gQ]at hc
   | some kt =>
    simp only[gQ]at hc
    split at hc
    ·rename_i kC
     simp at hc;subst hc
     simp only[ai]at he
     generalize m.ev R=tm at hm he
     cases tm<;>(try simp only[reduceCtorEq]at he)
     rename_i bb
     split at he
     ·rename_i tE
      cases hb:H[bb]? with
      | none=>simp[hb]at he
      | some z =>
       cases z<;>simp only[hb]at he<;>(try (cases he;done))
       rename_i es
       cases hr:cq (k.ev R) es with
       | none=>simp[hr]at he
       | some r =>
        have:=Ci (rt:=rt) (xt:=xt) hu kC h hm hk tE hb hr
        cases r with
        | none=>simp only[hr,Option.some.injEq,Prod.mk.injEq]at he;obtain⟨rfl,rfl⟩:=he;exact this.kb
        | some i=>simp only[hr,Option.some.injEq,Prod.mk.injEq]at he;obtain⟨rfl,rfl⟩:=he;exact this.kb
     ·cases he
    ·cases hc
 ·cases hc
theorem u3 {ty:TypeId}{m k:X}{e:Nat}{kt:KT}{z:T}(h:tL P ty m k=some (e,kt,z)):∃key ei zv,P.underlying ty=some (.map key e)∧P.info? e=some ei∧ei.zero=some zv∧jV zv=some z∧jW P key kt=true:=by
 unfold tL at h
 cases hu:P.underlying ty with
 | none=>simp[hu]at h
 | some d =>
  cases d<;>simp only[hu]at h<;>(try (cases h;done))
  rename_i key e'
  cases h1:qn P key with
  | none=>simp[h1]at h
  | some VA =>
   cases h2:P.info? e' with
   | none=>simp[h1,h2]at h
   | some ei =>
    simp only[h1,h2]at h
    cases h3:ei.zero with
    | none=>simp[h3]at h
    | some zv =>
     simp only[h3]at h
     cases h4:jV zv with
     | none=>simp[h4]at h
     | some z' =>
      simp only[h4]at h
      split at h
      ·rename_i kC
       simp at h
       obtain⟨rfl,rfl,rfl⟩:=h
       exact⟨key,ei,zv,rfl,h2,h3,h4,kC⟩
      ·cases h
theorem u4 {ty:TypeId}{m k v:X}{vm vk vv:Value}{e:Nat}{kt:KT}{z:T}(hc:tL P ty m k=some (e,kt,z))(h:SR w0 g H w)(hm:VR g w (m.ev R) vm)(hk:VR g w (k.ev R) vk)(hv:VR g w (v.ev R) vv)(he:ai R H (.xS kt m k v)=some (t,H')) :
  BE P w0 g H w (do Instr.mapUpdate ty vm vk vv;pure Next.skip) t H':=by
 obtain⟨key,ei,zv,hu,hi,hz,mO,kC⟩:=u3 hc
 simp only[ai]at he
 generalize m.ev R=tm at hm he
 cases tm<;>(try simp only[reduceCtorEq]at he)
 rename_i bb
 split at he
 ·rename_i tE
  cases hb:H[bb]? with
  | none=>simp[hb]at he
  | some y =>
   cases y<;>simp only[hb]at he<;>(try (cases he;done))
   rename_i es
   cases hr:cq (k.ev R) es with
   | none=>simp[hr]at he
   | some r =>
    obtain⟨w',g',h1,h2,h3,h4⟩:=Ch hu kC h hm hk hv tE hb hr
    cases r with
    | none=>simp only[hr,Option.some.injEq,Prod.mk.injEq]at he;obtain⟨rfl,rfl⟩:=he;exact⟨.skip,undef,w',g',by simp[h1],.inr ⟨rfl,rfl⟩,h2,h3,fG,h4⟩
    | some i=>simp only[hr,Option.some.injEq,Prod.mk.injEq]at he;obtain⟨rfl,rfl⟩:=he;exact⟨.skip,undef,w',g',by simp[h1],.inr ⟨rfl,rfl⟩,h2,h3,fG,h4⟩
 ·cases he
theorem CJ {ty:TypeId}{m k:X}{vm vk:Value}{e:Nat}{kt:KT}{z:T}{ok:Bool}(hc:tL P ty m k=some (e,kt,z))(h:SR w0 g H w)(hm:VR g w (m.ev R) vm)(hk:VR g w (k.ev R) vk)(he:ai R H (.ma kt z ok m k)=some (t,H')) :
  br P w0 g H w (Instr.lookup ty vm vk ok) t H':=by
 obtain⟨key,ei,zv,hu,hi,hz,mO,kC⟩:=u3 hc
 simp only[ai]at he
 split at he
 ·rename_i tE
  cases iz:eX H (m.ev R)with
  | none=>simp[iz]at he
  | some es =>
   simp only[iz]at he
   cases hr:cq (k.ev R) es with
   | none=>simp[hr]at he
   | some r =>
    cases r with
    | none =>
     simp only[hr,Option.some.injEq,Prod.mk.injEq]at he
     obtain⟨rfl,rfl⟩:=he
     exact uU hu hi hz mO kC h hm hk tE iz hr rfl
    | some i =>
     simp only[hr]at he
     cases hx:es[i]? with
     | none=>simp[hx]at he
     | some x =>
      simp only[hx,Option.some.injEq,Prod.mk.injEq]at he
      obtain⟨rfl,rfl⟩:=he
      exact uU hu hi hz mO kC h hm hk tE iz hr (by simp[hx])
 ·cases he
theorem w6 {ty:TypeId}{ps:List (Nat×X)}{pv:List (Nat×Value)}{b:Bo}(hc:lJ P ty ps=some b)(h:SR w0 g H w)(hv:PV g w R ps pv)(he:ai R H b=some (t,H')):br P w0 g H w (Instr.build ty pv.toArray) t H':=by
 unfold lJ at hc
 cases hu:P.underlying ty with
 | none=>simp[hu]at hc
 | some d =>
  cases hz:zeroOf P ty with
  | none=>cases d<;>simp[hu,hz]at hc
  | some z =>
   cases d<;>simp only[hu,hz]at hc<;>(try (cases hc;done))
   rename_i fs
   split at hc
   ·rename_i bF
    simp only[Bool.and_eq_true]at bF
    simp only[Option.some.injEq]at hc;subst hc
    obtain⟨i,zv,h1,h2,h3⟩:=dZ hz
    simp only[ai]at he
    split at he
    ·rename_i l hl
     simp only[Option.map_eq_some_iff,Prod.mk.injEq]at he
     obtain⟨cs,h4,rfl,rfl⟩:=he
     refine wT hu h1 h2 h3 (fun f hf=>?_) (fun p hp=>?_) h hv hl h4
     ·have:=bF.1
      simp only[rN,List.all_eq_true]at this
      exact Option.isSome_iff_exists.1 (this f hf)
     ·have:=bF.2
      simp only[List.all_eq_true,decide_eq_true_eq]at this
      exact this p hp
    ·cases he
   ·cases hc
theorem CK {ty:TypeId}{n:Nat}{ps:List (Nat×X)}{pv:List (Nat×Value)}{b:Bo}{mu:Bool}(hc:wX P mu ty n ps=some b)(h:SR w0 g H w)(hv:PV g w R ps pv)(he:ai R H b=some (t,H')):br P w0 g H w (Instr.buildSlice ty n pv.toArray) t H':=by
 unfold wX at hc
 cases hu:P.underlying ty with
 | none=>simp[hu]at hc
 | some d =>
  cases d<;>simp only[hu]at hc<;>(try (cases hc;done))
  rename_i e
  cases hi:P.info? e with
  | none=>simp[hi]at hc
  | some ei =>
   cases hz:zeroOf P e with
   | none=>simp[hi,hz]at hc
   | some z =>
    simp only[hi,hz]at hc
    split at hc
    ·rename_i bF
     simp only[Bool.and_eq_true,beq_iff_eq,decide_eq_true_eq]at bF
     simp at hc;subst hc
     obtain⟨i,zv,h1,h2,h3⟩:=dZ hz
     rw[hi]at h1;cases h1
     cases mu with
     | false =>
      simp only[Bool.false_eq_true,if_false,ai,Option.map_eq_some_iff,Prod.mk.injEq]at he
      obtain⟨fs,h4,rfl,rfl⟩:=he
      exact Co hu hi h2 h3 bF.1 bF.2 h hv h4
     | true =>
      simp only[if_true,ai,Option.bind_eq_some_iff]at he
      obtain⟨fs,h4,he⟩:=he
      split at he
      ·simp only[Option.some.injEq,Prod.mk.injEq]at he
       obtain⟨rfl,rfl⟩:=he
       exact Cu hu hi h2 h3 bF.1 bF.2 h hv h4
      ·cases he
    ·cases hc
theorem CL {ty:TypeId}{mu:Bool}{l c:X}{vl vc:Value}{b:Bo}(hc:wY P mu ty l c=some b)(h:SR w0 g H w)(hl:VR g w (l.ev R) vl)(rK:VR g w (c.ev R) vc)(he:ai R H b=some (t,H')):br P w0 g H w (Instr.makeSlice ty vl vc) t H':=by
 unfold wY at hc
 cases hu:P.underlying ty with
 | none=>simp[hu]at hc
 | some d =>
  cases d<;>simp only[hu]at hc<;>(try (cases hc;done))
  rename_i e
  cases hi:P.info? e with
  | none=>simp[hi]at hc
  | some ei =>
   cases hz:zeroOf P e with
   | none=>simp[hi,hz]at hc
   | some z =>
    simp only[hi,hz]at hc
    split at hc
    ·rename_i bF
     simp only[Bool.and_eq_true,beq_iff_eq,bne_iff_ne]at bF
     simp at hc;subst hc
     obtain⟨i,zv,h1,h2,h3⟩:=dZ hz
     rw[hi]at h1;cases h1
     simp only[ai]at he
     cases JN:bB (l.ev R)with
     | none=>simp[JN]at he
     | some nl =>
      cases Nt:bB (c.ev R)with
      | none=>simp[JN,Nt]at he
      | some nc =>
       simp only[JN,Nt]at he
       split at he
       ·rename_i fg
        refine Cp (mu:=mu) hu hi h2 h3 bF.1 bF.2 h hl rK JN Nt fg.1 fg.2.1 fg.2.2 ?_
        cases mu with
        | true=>simpa using he
        | false =>
         simp only[Bool.false_eq_true,if_false]at he ⊢
         split at he
         ·rename_i e0;rw[if_pos e0];simpa using he
         ·rename_i e0;rw[if_neg e0];simpa using he
       ·cases he
    ·cases hc
theorem RV.get {xs:List Operand}(h:RV g w R ρ xs){x:Operand}{y:X}(hx:x∈xs)(hc:av x=some y):VR g w (y.ev R) (ρ x):=h x hx y hc
theorem FG {mu:Bool}{o:Oper}{b:Bo}(hρ:∀f:FuncId,ρ (.func f)=.func (.func f) #[] #[])(hc:aY P mu o.op=some b)(h:SR w0 g H w)(hv:RV g w R ρ o.op.operands.toList)(he:ai R H b=some (t,H')):BE P w0 g H w (execOp ρ o) t H':=by
 obtain⟨dst,op,ty,pos,after,guard⟩:=o
 cases op<;>simp only[aY]at hc<;>(try (cases hc;done))<;>simp only[Op.operands]at hv
 case move x =>
  simp only[Option.map_eq_some_iff]at hc
  obtain⟨y,h1,rfl⟩:=hc
  simp only[ai,Option.some.injEq,Prod.mk.injEq]at he
  obtain⟨rfl,rfl⟩:=he
  exact⟨_,_,w,g,rfl,.inl rfl,.refl _ _,h,hv.get (by simp) h1,.refl _ _⟩
 case assign x =>
  simp only[Option.map_eq_some_iff]at hc
  obtain⟨y,h1,rfl⟩:=hc
  simp only[ai,Option.some.injEq,Prod.mk.injEq]at he
  obtain⟨rfl,rfl⟩:=he
  exact⟨_,_,w,g,rfl,.inl rfl,.refl _ _,h,hv.get (by simp) h1,.refl _ _⟩
 case pick c x y =>
  cases h1:av c with
  | none=>simp[h1]at hc
  | some c' =>
   cases h2:av x with
   | none=>simp[h1,h2]at hc
   | some x' =>
    cases h3:av y with
    | none=>simp[h1,h2,h3]at hc
    | some y' =>
     simp only[h1,h2,h3,Option.some.injEq]at hc
     subst hc
     have vc:=hv.get (by simp) h1
     have vx:=hv.get (by simp) h2
     have vy:=hv.get (by simp) h3
     simp only[ai]at he
     generalize c'.ev R=tc at vc he
     cases tc<;>(try simp only[reduceCtorEq]at he)
     simp only[Option.some.injEq,Prod.mk.injEq]at he
     obtain⟨rfl,rfl⟩:=he
     obtain⟨v,w',g',k1,k2⟩:=yo (P:=P) h vc vx vy
     refine⟨.value v,v,w',g',?_,.inl rfl,k2⟩
     simp only[execOp,Sem.run_bind,Sem.run_pure]at k1 ⊢
     generalize (asBool (ρ c)).run P w=r at k1 ⊢
     cases r<;>simp_all
 case alloc po =>
  simp only[Option.map_eq_some_iff]at hc
  obtain⟨z,h1,rfl⟩:=hc
  obtain⟨i,zv,h2,h3,h4⟩:=dZ h1
  simp only[ai,Option.some.injEq,Prod.mk.injEq]at he
  obtain⟨rfl,rfl⟩:=he
  exact(wR h2 h3 h4 h).kb
 case box po x =>
  simp only[Option.map_eq_some_iff]at hc
  obtain⟨y,h1,rfl⟩:=hc
  simp only[ai,Option.map_eq_some_iff,Prod.mk.injEq]at he
  obtain⟨cs,h2,rfl,rfl⟩:=he
  exact(Cf h (hv.get (by simp) h1) h2).kb
 case build po ps =>
  simp only[Option.bind_eq_some_iff]at hc
  obtain⟨qs,h1,h2⟩:=hc
  have hp:=lK (ρ:=ρ) _ _ h1 (by simpa using hv)
  have:=(w6 h2 h hp he).kb
  have e:(ps.map fun x=>(x.1,ρ x.2))=(ps.toList.map fun p=>(p.1,ρ p.2)).toArray:=by apply Array.ext';simp
  simp only[execOp]
  rw[e];exact this
 case buildSlice po n ps =>
  simp only[Option.bind_eq_some_iff]at hc
  obtain⟨qs,h1,h2⟩:=hc
  have hp:=lK (ρ:=ρ) _ _ h1 (by simpa using hv)
  have:=(CK h2 h hp he).kb
  have e:(ps.map fun x=>(x.1,ρ x.2))=(ps.toList.map fun p=>(p.1,ρ p.2)).toArray:=by apply Array.ext';simp
  simp only[execOp]
  rw[e];exact this
 case insert po m k v =>
  cases h1:av m with
  | none=>simp[h1]at hc
  | some m' =>
   cases h2:av k with
   | none=>simp[h1,h2]at hc
   | some k' =>
    cases h3:av v with
    | none=>simp[h1,h2,h3]at hc
    | some v' =>
     simp only[h1,h2,h3,Option.map_eq_some_iff]at hc
     obtain⟨⟨e,kt,z⟩,h4,rfl⟩:=hc
     exact u4 h4 h (hv.get (by simp) h1) (hv.get (by simp) h2) (hv.get (by simp) h3) he
 case mapUpdate po m k v =>
  cases h1:av m with
  | none=>simp[h1]at hc
  | some m' =>
   cases h2:av k with
   | none=>simp[h1,h2]at hc
   | some k' =>
    cases h3:av v with
    | none=>simp[h1,h2,h3]at hc
    | some v' =>
     simp only[h1,h2,h3,Option.map_eq_some_iff]at hc
     obtain⟨⟨e,kt,z⟩,h4,rfl⟩:=hc
     exact u4 h4 h (hv.get (by simp) h1) (hv.get (by simp) h2) (hv.get (by simp) h3) he
 case load po x =>
  simp only[Option.bind_eq_some_iff]at hc
  obtain⟨y,h1,h2⟩:=hc
  exact yO h2 h (hv.get (by simp) h1) he
 case store po a v =>
  cases h1:P.info? po with
  | none=>simp[h1]at hc
  | some i =>
   cases h2:av a with
   | none=>simp[h1,h2]at hc
   | some a' =>
    cases h3:av v with
    | none=>simp[h1,h2,h3]at hc
    | some v' =>
     simp only[h1,h2,h3,Option.some.injEq]at hc
     subst hc
     simp only[ai]at he
     cases h4:(v'.ev R).cells? with
     | none=>simp[h4]at he
     | some vs =>
      simp only[h4]at he
      split at he
      ·rename_i hn
       simp only[Option.map_eq_some_iff,Prod.mk.injEq]at he
       obtain⟨H1,h5,rfl,rfl⟩:=he
       obtain⟨w',g',k1,k2,k3,k4⟩:=Fp (P:=P) h1 h (hv.get (by simp) h2) (hv.get (by simp) h3) h4 hn h5
       exact⟨.skip,undef,w',g',by simp[execOp,k1],.inr ⟨rfl,rfl⟩,k2,k3,fG,k4⟩
      ·cases he
 case nilCheck x =>
  simp only[Option.map_eq_some_iff]at hc
  obtain⟨y,h1,rfl⟩:=hc
  have vx:=hv.get (by simp) h1
  simp only[ai]at he
  have key:t=y.ev R∧H'=H∧∃v,(execOp ρ ⟨dst,.nilCheck x,ty,pos,after,guard⟩).run P w=.ok (.value v) w∧v=ρ x:=by
   simp only[execOp]
   generalize y.ev R=tx at vx he
   generalize ρ x=vv at vx
   cases vx<;>simp only[reduceCtorEq,Option.some.injEq,Prod.mk.injEq]at he<;>obtain⟨rfl,rfl⟩:=he<;>exact⟨rfl,rfl,_,rfl,rfl⟩
  obtain⟨rfl,rfl,v,k1,rfl⟩:=key
  exact⟨_,_,w,g,k1,.inl rfl,.refl _ _,h,vx,.refl _ _⟩
 case binOp op po x y yt =>
  cases h1:av x with
  | none=>simp[h1]at hc
  | some x' =>
   cases h2:av y with
   | none=>simp[h1,h2]at hc
   | some y' =>
    simp only[h1,h2]at hc
    exact CE hc h (hv.get (by simp) h1) (hv.get (by simp) h2) he
 case unOp op po x =>
  simp only[Option.map_eq_some_iff]at hc
  obtain⟨y,h1,rfl⟩:=hc
  simp only[ai,Option.map_eq_some_iff,Prod.mk.injEq]at he
  obtain⟨t',h2,rfl,rfl⟩:=he
  exact(Ff h (hv.get (by simp) h1) h2).kb
 case convert s d x =>
  simp only[Option.bind_eq_some_iff]at hc
  obtain⟨y,h1,h2⟩:=hc
  exact yQ h2 h (hv.get (by simp) h1) he
 case makeFunc fn first iB =>
  cases fn<;>simp only[aY]at hc<;>(try (cases hc;done))
  rename_i f
  split at hc
  ·rename_i h0
   simp only[Option.map_eq_some_iff]at hc
   obtain⟨ys,h1,rfl⟩:=hc
   have:first=#[]:=Array.eq_empty_of_size_eq_zero h0
   subst this
   simp only[ai,Option.some.injEq,Prod.mk.injEq]at he
   obtain⟨rfl,rfl⟩:=he
   have gP:=dY (ρ:=ρ) _ _ h1 (fun x hx=>hv x (by simpa using hx))
   have:=(Cq (P:=P) (f:=f) h gP).kb
   have e:iB.map ρ=(iB.toList.map ρ).toArray:=by apply Array.ext';simp
   have e0:(#[]:Array Operand).map ρ=#[]:=by simp
   simp only[execOp]
   rw[e,e0];exact this
  ·cases hc
 case range po m =>
  cases hu:P.underlying po with
  | none=>simp[hu]at hc
  | some d =>
   cases d<;>simp only[hu]at hc<;>(try (cases hc;done))
   simp only[Option.map_eq_some_iff]at hc
   obtain⟨y,h1,rfl⟩:=hc
   have vm:=hv.get (by simp) h1
   simp only[ai]at he
   generalize y.ev R=tm at vm he
   cases tm<;>(try (simp only[reduceCtorEq]at he;done))
   rename_i bb
   simp only[Option.map_eq_some_iff,Prod.mk.injEq]at he
   obtain⟨es,h2,rfl,rfl⟩:=he
   exact(Cz hu h vm h2).kb
 case next it str =>
  cases str<;>simp only[aY]at hc<;>(try (cases hc;done))
  simp only[Option.map_eq_some_iff]at hc
  obtain⟨y,h1,rfl⟩:=hc
  simp[ai]at he
 case entry it =>
  simp only[Option.map_eq_some_iff]at hc
  obtain⟨y,h1,rfl⟩:=hc
  have vm:=hv.get (by simp) h1
  simp only[ai]at he
  generalize y.ev R=tm at vm he
  cases tm<;>(try (simp only[reduceCtorEq]at he;done))
  rename_i bi off
  cases off with
  | succ _=>simp at he
  | zero =>
   simp only at he
   cases hi:H[bi]? with
   | none=>simp[hi]at he
   | some yi =>
    cases yi<;>simp only[hi]at he<;>(try (cases he;done))
    rename_i bb
    cases hb:H[bb]? with
    | none=>simp[hb]at he
    | some yb =>
     cases yb<;>simp only[hb]at he<;>(try (cases he;done))
     rename_i es ix Jj cur
     cases cur with
     | none=>simp at he
     | some c =>
      simp only at he
      split at he
      ·rename_i e;subst e
       simp only[Option.map_eq_some_iff,Prod.mk.injEq]at he
       obtain⟨e,h2,rfl,rfl⟩:=he
       exact(CC h vm hb h2).kb
      ·cases he
 case makeMap po r =>
  cases r with
  | some _=>simp[aY]at hc
  | none =>
   simp only[aY,Option.some.injEq]at hc
   subst hc
   simp only[ai,Option.some.injEq,Prod.mk.injEq]at he
   obtain⟨rfl,rfl⟩:=he
   exact(Cg h).kb
 case makeSlice po l c =>
  cases h1:av l with
  | none=>simp[h1]at hc
  | some l' =>
   cases h2:av c with
   | none=>simp[h1,h2]at hc
   | some c' =>
    simp only[h1,h2]at hc
    exact(CL hc h (hv.get (by simp) h1) (hv.get (by simp) h2) he).kb
 case slice po x lo hi mx =>
  cases h1:av x with
  | none=>simp[h1]at hc
  | some x' =>
   cases h2:gR lo with
   | none=>simp[h1,h2]at hc
   | some VB =>
    cases h3:gR hi with
    | none=>simp[h1,h2,h3]at hc
    | some jy =>
     cases h4:gR mx with
     | none=>simp[h1,h2,h3,h4]at hc
     | some VC =>
      simp only[h1,h2,h3,h4]at hc
      split at hc
      ·exact CG hc h (hv.get (by simp) h1) (fo h2 (fun z hz=>hv z (by simp;simp at hz;simp[hz]))) (fo h3 (fun z hz=>hv z (by simp;simp at hz;simp[hz]))) (fo h4 (fun z hz=>hv z (by simp;simp at hz;simp[hz]))) he
      ·exact wZ hc h (hv.get (by simp) h1) (fo h2 (fun z hz=>hv z (by simp;simp at hz;simp[hz]))) (fo h3 (fun z hz=>hv z (by simp;simp at hz;simp[hz]))) (fo h4 (fun z hz=>hv z (by simp;simp at hz;simp[hz]))) he
 case fieldAddr po x f =>
  simp only[Option.bind_eq_some_iff]at hc
  obtain⟨y,h1,h2⟩:=hc
  exact(pn h2 h (hv.get (by simp) h1) he).kb
 case field po x f =>
  simp only[Option.bind_eq_some_iff]at hc
  obtain⟨y,h1,h2⟩:=hc
  exact(pn h2 h (hv.get (by simp) h1) he).kb
 case indexAddr po x i =>
  cases h1:av x with
  | none=>simp[h1]at hc
  | some x' =>
   cases h2:av i with
   | none=>simp[h1,h2]at hc
   | some i' =>
    simp only[h1,h2]at hc
    exact(u2 hc h (hv.get (by simp) h1) (hv.get (by simp) h2) he).kb
 case index po x i =>
  cases h1:av x with
  | none=>simp[h1]at hc
  | some x' =>
   cases h2:av i with
   | none=>simp[h1,h2]at hc
   | some i' =>
    simp only[h1,h2]at hc
    exact(u2 hc h (hv.get (by simp) h1) (hv.get (by simp) h2) he).kb
 case lookup po m k ok =>
  cases h1:av m with
  | none=>simp[h1]at hc
  | some m' =>
   cases h2:av k with
   | none=>simp[h1,h2]at hc
   | some k' =>
    simp only[h1,h2,Option.map_eq_some_iff]at hc
    obtain⟨⟨e,kt,z⟩,h4,rfl⟩:=hc
    exact(CJ h4 h (hv.get (by simp) h1) (hv.get (by simp) h2) he).kb
 case extract x i =>
  simp only[Option.map_eq_some_iff]at hc
  obtain⟨y,h1,rfl⟩:=hc
  have vx:=hv.get (by simp) h1
  simp only[ai]at he
  generalize y.ev R=tx at vx he
  cases tx<;>(try simp only[reduceCtorEq]at he)
  simp only[Option.map_eq_some_iff,Prod.mk.injEq]at he
  obtain⟨t',h2,rfl,rfl⟩:=he
  exact(Cd h vx h2).kb
 case call c =>
  obtain⟨callee,args,fV⟩:=c
  cases callee
  case value cv =>
   cases cv<;>simp only[aY]at hc<;>(try (cases hc;done))
   rename_i f
   split at hc
   ·rename_i n x y rl h1
    simp only[Option.some.injEq]at hc;subst hc
    have gP:=dY (ρ:=ρ) _ _ h1 (fun x hx=>hv x (by simp[Call.operands];exact .inr (by simpa using hx)))
    simp only[ai]at he
    have hd:=CI rl h gP he
    simpa[execOp,resolve,hρ,Deferred.ofValue,invoke]using hd
   ·cases hc
  all_goals simp only[aY]at hc<;>(try (cases hc;done))
  rename_i bi
  simp only[Option.bind_eq_some_iff]at hc
  obtain⟨as,h1,h2⟩:=hc
  have gP:=dY (ρ:=ρ) _ _ h1 (fun x hx=>hv x (by simpa[Call.operands]using hx))
  have e:args.map ρ=(args.toList.map ρ).toArray:=by apply Array.ext';simp
  have e2:fV=fV.toList.toArray:=by simp
  have:=rP (rt:=ty) (cs:=args.map fun | .const _=>true|_=>false) h2 h gP he
  simp only[execOp,resolve,pure_bind,invoke]
  rw[e,e2]
  exact this
end
section
variable {P:Program} {w0 w:World} {g:Ctx} {H:ae}
theorem SR.qo {b r o q:Nat}{x x':Obj}{y y':B}(h:SR w0 g H w)(hb:H[b]?=some y)(hφ:g.φ b=some (r,o,q))(h1:g.κ r 0=.mut b)(hr:w.heap[r]?=some x)(hs:dH x=true)(gh:dH x'=true)
  (kC:∀w',Le g w g w'→w'.heap[r]?=some x'→uN g w' b y') :
  Le g w g (w.putObj r x')∧SR w0 g (H.set b y') (w.putObj r x')∧Fr g H g (H.set b y'):=by
 have jX:b<H.length:=(List.getElem?_eq_some_iff.1 hb).1
 have tr:Tr w (w.putObj r x') eY (fun r'=>r'=r):=Tr.tF w r hs gh hr
 have le:Le g w g (w.putObj r x'):=Le.fD tr (fun _ _ h=>h) (fun _ _ h=>h) (fun _ _ _ h=>h) (fun _ _ hs=>hs.elim)
 refine⟨le,h.step (fun b'=>b'=b) tr le (fun _ _ hs=>hs.elim) (fun r' hm=>⟨b,by rw[hm];exact h1,rfl⟩) (fun r' j kj=>h.fresh r' j (by simpa[World.putObj]using kj)) (fun b' x hx=>by rw[List.length_set];exact h.ni b' x hx)
  (fun t e x hx=>by rw[List.length_set];exact h.fe t e x hx) (fun _ _ _=>rfl) (fun _ _ _ _=>⟨id,id⟩) (fun _ _ _ _=>rfl) (fun b' x hx=>?_),by simp,fun b' x a _ d=>⟨db a (by rintro rfl;rw[hφ]at d;cases d),d⟩⟩
 rcases cz jX hx with⟨rfl,rfl⟩|⟨ba,gg⟩
 ·exact .inr (kC _ le (World.putObj_heap_same (Array.getElem?_eq_some_iff.1 hr).1))
 ·exact .inl ⟨ba,gg⟩
theorem SR.yR {x:Obj}{y:B}(h:SR w0 g H w)(Nn:dH x=true)
  (kC:∀g' w',Le g w g' w'→g'.κ w.heap.size 0=.mut H.length→g'.φ H.length=some (w.heap.size,0,0)→w'.heap[w.heap.size]?=some x→uN g' w' H.length y) :
  ∃g',Le g w g' (w.alloc x)∧SR w0 g' (H++[y]) (w.alloc x)∧Fr g H g' (H++[y])∧g'.φ H.length=some (w.heap.size,0,0):=by
 have rF:=Tr.alloc w x (.inl Nn)
 have ba:∀r j ow,g.κ r j=ow→ow≠.free→r≠w.heap.size:=by rintro r j ow e hn rfl;exact hn (e▸h.fresh _ j (Nat.le_refl _))
 have No:=h.Ce (b:=H.length) (Nat.le_refl _)
 have le:Le g w ((g.row w.heap.size fun _=>.mut H.length).at H.length (w.heap.size,0,0)) (w.alloc x):=Le.fD rF
  (fun b' x hx=>by simp only[Ctx.at,Ctx.row];split;rename_i e;subst e;rw[No]at hx;simp at hx;exact hx)
  (fun r o hk=>by simp only[Ctx.row,Ctx.at];rw[if_neg (ba r o _ hk (by simp))];exact hk) (fun _ _ _ h=>h) (fun _ _ hs=>hs.elim)
 refine⟨_,le,?_,⟨by simp,fun b x a _ d=>⟨ff a,?_⟩⟩,by simp[Ctx.at]⟩
 ·refine h.step (fun b'=>b'=H.length) rF le (fun _ _ hs=>hs.elim) (fun _ hm=>hm.elim) (fun r o hr=>?_) (fun b' x hx=>?_) (fun t e x hx=>by have:=h.fe t e x hx;simp;omega) (fun b' _ fC=>?_) (fun r j b' fC=>?_) (fun _ _ _ _=>rfl) (fun b' x hx=>?_)
  ·simp at hr
   simp only[Ctx.row,Ctx.at];rw[if_neg (by omega)];exact h.fresh r o (by omega)
  ·simp only[Ctx.at,Ctx.row]at hx
   split at hx
   ·rename_i e;subst e;simp
   ·have:=h.ni b' x hx;simp;omega
  ·simp only[Ctx.at,Ctx.row];rw[if_neg fC]
  ·constructor<;>intro e<;>simp only[Ctx.row,Ctx.at]<;>rw[if_neg (ba r j _ e (by simp))]<;>exact e
  ·by_cases e:b'=H.length
   ·subst e
    rw[dg]at hx;cases hx
    exact .inr (kC _ _ le (by simp[Ctx.row,Ctx.at]) (by simp[Ctx.at]) (World.alloc_heap_new w _))
   ·exact .inl ⟨e,bT e hx⟩
 ·have:=(List.getElem?_eq_some_iff.1 a).1
  simp only[Ctx.at,Ctx.row];rw[if_neg (by omega)];exact d
theorem SR.freeze {b:Nat}{cs:List T}(h:SR w0 g H w)(hb:H[b]?=some (.cells cs))(hφ:∃x,g.φ b=some x) :
  ∃g',Le g w g' w∧SR w0 g' (H.set b .dead) w∧Fr g H g' (H.set b .dead)∧∀t v,VR g w t v→VR g' w (BQ b cs t) v:=by
 let g':Ctx:={ g with κ:=fun r o=>if g.κ r o=.mut b then .gI else g.κ r o }
 have le:Le g w g' w:=⟨fun _ _ h=>h,fun r o e=>by simp only[g'];rw[e];simp,fun _ _ _ h=>h,fun _ _ _ _ h=>h,rfl⟩
 have jX:b<H.length:=(List.getElem?_eq_some_iff.1 hb).1
 have tr:Tr w w (fun _ _=>False) (fun _=>False):=⟨Nat.le_refl _,fun _ _ _ _=>rfl,fun _ _ _=>rfl,fun _ _ _ h=>h,fun _ _ _ _ h=>h,fun _ _ _ _=>rfl,fun r j hr=>bR hr,rfl,rfl⟩
 have sr:SR w0 g' (H.set b .dead) w:=by
  refine h.step (fun b'=>b'=b) tr le (fun _ _ h=>h.elim) (fun _ h=>h.elim) (fun r o hr=>?_) (fun b' x hx=>?_) (fun t e x hx=>?_) (fun _ _ _=>rfl) (fun r j b' ba=>⟨fun e=>?_,fun e=>?_⟩) (fun _ _ _ _=>rfl) (fun b' x hx=>?_)
  ·simp only[g'];rw[h.fresh r o hr];simp
  ·rw[List.length_set];exact h.ni b' x hx
  ·rw[List.length_set];exact h.fe t e x hx
  ·simp only[g'];rw[e,if_neg (by simpa using ba)]
  ·simp only[g'];rw[e,if_neg (by simp)]
  ·rcases cz jX hx with⟨rfl,rfl⟩|⟨ba,gg⟩
   ·exact .inr trivial
   ·exact .inl ⟨ba,gg⟩
 have one:∀t v,VR g w t v→VR g' w (BP b cs t) v:=by
  intro t v hv
  cases t with
  | aE b' off len n =>
   simp only[BP]
   split
   ·rename_i hc
    obtain⟨rfl,hle⟩:=hc
    cases hv with
    | @aE _ _ _ _ r o q cap hp hc hq =>
     obtain⟨c1,c2,c3⟩:=h.cu _ _ hb r o q hp
     have hlen:(fB cs off len n).length=len:=by simp[fB]
     have Nu:∀(i j:Nat) (c:List T) (t:T),(fB cs off len n)[i]?=some c→c[j]?=some t→j<n∧i<len∧cs[off+i*n+j]?=some t:=by
      intro i j c t hi hj
      have gr:i<len:=by have:=(List.getElem?_eq_some_iff.1 hi).1;rw[hlen]at this;exact this
      simp only[fB,List.getElem?_map,List.getElem?_range gr,Option.map_some,Option.some.injEq]at hi
      subst hi
      rw[List.getElem?_take]at hj
      split at hj
      ·rename_i w7
       rw[List.getElem?_drop]at hj
       exact⟨w7,gr,hj⟩
      ·cases hj
     have key:∀(i j:Nat) (c:List T) (t:T),(fB cs off len n)[i]?=some c→c[j]?=some t→t.one=true∧∃v,w.cell? ⟨r,o+off+i*n+j,none⟩=some v∧VR g w t v∧g.κ r (o+off+i*n+j)=.mut b':=by
      intro i j c t hi hj
      obtain⟨h1,h2,h3⟩:=Nu i j c t hi hj
      obtain⟨k1,v,k2,k3⟩:=c3 _ _ h3
      have ib:off+i*n+j<cs.length:=(List.getElem?_eq_some_iff.1 h3).1
      refine⟨k1,v,?_,k3,?_⟩
      ·rw[show o+off+i*n+j=o+(off+i*n+j) by omega];exact k2
      ·exact(c2 (o+off+i*n+j) (by omega) (by omega)).1
     have:=VR.sl (g:=g') (w:=w) (k:=.arg) (es:=fB cs off len n) (r:=r) (o:=o+off) (cap:=cap) (n:=n) (fun i j=>(w.cell? ⟨r,o+off+i*n+j,none⟩).getD undef) trivial (by rw[hlen];exact hc)
      (fun c eB=>by
       obtain⟨i,hi,rfl⟩:=List.mem_map.1 eB
       have hi:=List.mem_range.1 hi
       have:i*n+n≤len*n:=by rw[←Nat.succ_mul];exact Nat.mul_le_mul_right n hi
       rw[List.length_take,List.length_drop];omega)
      (fun i j c t hi hj=>by
       obtain⟨k1,v,k2,_,k4⟩:=key i j c t hi hj
       refine⟨k1,?_,by rw[k2];rfl⟩
       simp only[g'];rw[if_pos k4])
      (fun i j c t hi hj=>by
       obtain⟨_,v,k2,k3,_⟩:=key i j c t hi hj
       rw[k2];exact k3.mono le)
     rw[hlen]at this
     exact this
   ·exact hv.mono le
  | _=>exact hv.mono le
 refine⟨g',le,sr,⟨by simp,fun b' y a _ d=>⟨db a (by rintro rfl;obtain⟨x,hx⟩:=hφ;rw[hx]at d;cases d),d⟩⟩,fun t v hv=>?_⟩
 cases t with
 | bE vs =>
  cases hv with
  | bE hl h2 =>
   refine .bE (by simpa using hl) fun i t v hi w8=>?_
   rw[List.getElem?_map,Option.map_eq_some_iff]at hi
   obtain⟨t',CM,rfl⟩:=hi
   exact one _ _ (h2 i t' v CM w8)
 | _=>exact one _ _ hv
end
section
variable {w0 w:World} {g:Ctx} {H:ae}
theorem SR.CN {b:Nat}{cs:List T}(h:SR w0 g H w)(hb:H[b]?=some (.cells cs))(hφ:∃x,g.φ b=some x) :
  ∃g',Le g w g' w∧SR w0 g' (H.set b (.fz cs)) w∧Fr g H g' (H.set b (.fz cs)):=by
 let g':Ctx:={ g with κ:=fun r o=>if g.κ r o=.mut b then .gI else g.κ r o }
 have le:Le g w g' w:=⟨fun _ _ h=>h,fun r o e=>by simp only[g'];rw[e];simp,fun _ _ _ h=>h,fun _ _ _ _ h=>h,rfl⟩
 have jX:b<H.length:=(List.getElem?_eq_some_iff.1 hb).1
 have tr:Tr w w (fun _ _=>False) (fun _=>False):=⟨Nat.le_refl _,fun _ _ _ _=>rfl,fun _ _ _=>rfl,fun _ _ _ h=>h,fun _ _ _ _ h=>h,fun _ _ _ _=>rfl,fun r j hr=>bR hr,rfl,rfl⟩
 have sr:SR w0 g' (H.set b (.fz cs)) w:=by
  refine h.step (fun b'=>b'=b) tr le (fun _ _ h=>h.elim) (fun _ h=>h.elim) (fun r o hr=>?_) (fun b' x hx=>?_) (fun t e x hx=>?_) (fun _ _ _=>rfl) (fun r j b' ba=>⟨fun e=>?_,fun e=>?_⟩) (fun _ _ _ _=>rfl) (fun b' x hx=>?_)
  ·simp only[g'];rw[h.fresh r o hr];simp
  ·rw[List.length_set];exact h.ni b' x hx
  ·rw[List.length_set];exact h.fe t e x hx
  ·simp only[g'];rw[e,if_neg (by simpa using ba)]
  ·simp only[g'];rw[e,if_neg (by simp)]
  ·rcases cz jX hx with⟨rfl,rfl⟩|⟨ba,gg⟩
   ·refine .inr fun r o q hq=>?_
    obtain⟨c1,c2,c3⟩:=h.cu _ _ hb r o q hq
    refine⟨c1,fun i t hi=>?_⟩
    have gr:i<cs.length:=(List.getElem?_eq_some_iff.1 hi).1
    obtain⟨k1,v,k2,k3⟩:=c3 i t hi
    refine⟨k1,v,⟨?_,k2⟩,k3.mono le⟩
    simp only[g'];rw[if_pos (c2 (o+i) (by omega) (by omega)).1]
   ·exact .inl ⟨ba,gg⟩
 exact⟨g',le,sr,⟨by simp,fun b' y a _ d=>⟨db a (by rintro rfl;obtain⟨x,hx⟩:=hφ;rw[hx]at d;cases d),d⟩⟩⟩
theorem kO (cs:List T)(off len n:Nat):(fB cs off len n).length=len:=by simp[fB]
theorem yS {cs:List T}{off len n i j:Nat}{c:List T}{t:T}(hi:(fB cs off len n)[i]?=some c)(hj:c[j]?=some t):j<n∧i<len∧cs[off+i*n+j]?=some t:=by
 have gr:i<len:=by have:=(List.getElem?_eq_some_iff.1 hi).1;rw[kO]at this;exact this
 simp only[fB,List.getElem?_map,List.getElem?_range gr,Option.map_some,Option.some.injEq]at hi
 subst hi
 rw[List.getElem?_take]at hj
 split at hj
 ·rename_i w7
  rw[List.getElem?_drop]at hj
  exact⟨w7,gr,hj⟩
 ·cases hj
theorem SR.CO {b len n:Nat}{cs:List T}{v:Value}(h:SR w0 g H w)(hb:H[b]?=some (.cells cs))(hv:VR g w (.aE b 0 len n) v)(hlen:len*n=cs.length)(h0:0<len) :
  ∃g',Le g w g' w∧SR w0 g' (H.set b (.fz cs)++[.tok len]) w∧Fr g H g' (H.set b (.fz cs)++[.tok len])∧∀v,VR g w (.aE b 0 len n) v→VR g' w (.sl (.own H.length len) (fB cs 0 len n)) v:=by
 obtain⟨r,o,q,hφ⟩:∃r o q,g.φ b=some (r,o,q):=by cases hv with|aE hp=>exact⟨_,_,_,hp⟩
 obtain⟨c1,c2,c3⟩:=h.cu _ _ hb r o q hφ
 have jX:b<H.length:=(List.getElem?_eq_some_iff.1 hb).1
 let g':Ctx:={ g with κ:=fun r' o'=>if g.κ r' o'=.mut b then(if r'=r∧o+cs.length≤o'∧o'<q then .spare H.length else .gI)else g.κ r' o',π:=fun t e=>if t=H.length then(if e=len then some (r,o+cs.length,q)else none)else g.π t e }
 have Sy:∀e,g.π H.length e=none:=fun e=>by
  cases hp:g.π H.length e with
  | none=>rfl
  | some x=>exact absurd (h.fe _ _ _ hp) (Nat.lt_irrefl _)
 have le:Le g w g' w:=⟨fun _ _ h=>h,fun r o e=>by simp only[g'];rw[e];simp,fun t e x hx=>by
  simp only[g'];rw[if_neg (by rintro rfl;rw[Sy]at hx;cases hx)];exact hx,fun _ _ _ _ h=>h,rfl⟩
 have tr:Tr w w (fun _ _=>False) (fun _=>False):=⟨Nat.le_refl _,fun _ _ _ _=>rfl,fun _ _ _=>rfl,fun _ _ _ h=>h,fun _ _ _ _ h=>h,fun _ _ _ _=>rfl,fun r j hr=>bR hr,rfl,rfl⟩
 have gI:∀i,i<cs.length→g'.κ r (o+i)=.gI:=fun i hi=>by
  simp only[g'];rw[if_pos (c2 (o+i) (by omega) (by omega)).1,if_neg (by omega)]
 have sr:SR w0 g' (H.set b (.fz cs)++[.tok len]) w:=by
  refine h.step (fun b'=>b'=b∨b'=H.length) tr le (fun _ _ h=>h.elim) (fun _ h=>h.elim) (fun r o hr=>?_) (fun b' x hx=>?_) (fun t e x hx=>?_) (fun _ _ _=>rfl) (fun r j b' ba=>⟨fun e=>?_,fun e=>?_⟩) (fun t e _ ht=>?_) (fun b' x hx=>?_)
  ·simp only[g'];rw[h.fresh r o hr];simp
  ·have:=h.ni b' x hx;simp;omega
  ·simp only[g']at hx
   split at hx
   ·rename_i e;subst e;simp
   ·have:=h.fe t e x hx;simp;omega
  ·simp only[g'];rw[e,if_neg (by simpa using fun e=>ba (.inl e))]
  ·simp only[g'];rw[e,if_neg (by simp)]
  ·simp only[g'];rw[if_neg (fun e=>ht (.inr e))]
  ·by_cases e:b'=H.length
   ·subst e
    have:(H.set b (.fz cs)++[B.tok len])[H.length]?=some (.tok len):=by rw[show H.length=(H.set b (.fz cs)).length by simp];exact dg _ _
    rw[this]at hx;cases hx
    refine .inr ⟨r,o+cs.length,q,by simp[g'],c1,fun j a c=>⟨?_,(c2 j (by omega) c).2⟩,fun e' he=>?_⟩
    ·simp only[g',true_and];rw[if_pos (c2 j (by omega) c).1,if_pos ⟨a,c⟩]
    ·simp only[g',if_true];rw[if_neg (by omega)]
   ·have gg:(H.set b (.fz cs))[b']?=some x:=bT (by simpa using e) hx
    rcases cz jX gg with⟨rfl,rfl⟩|⟨ba,gg⟩
    ·refine .inr fun r' o' q' hq=>?_
     have e1:g.φ b'=some (r',o',q'):=hq
     rw[hφ]at e1;cases e1
     refine⟨c1,fun i t hi=>?_⟩
     have gr:i<cs.length:=(List.getElem?_eq_some_iff.1 hi).1
     obtain⟨k1,v,k2,k3⟩:=c3 i t hi
     exact⟨k1,v,⟨gI i gr,k2⟩,k3.mono le⟩
    ·exact .inl ⟨fun e'=>e'.elim ba e,gg⟩
 refine⟨g',le,sr,⟨by simp,fun b' y a _ d=>⟨ff (db a (by rintro rfl;rw[hφ]at d;cases d)),d⟩⟩,fun v hv=>?_⟩
 cases hv with
 | @aE _ _ _ _ r1 o1 q1 cap hp hc hq =>
  rw[hφ]at hp;cases hp
  have key:∀(i j:Nat) (c:List T) (t:T),(fB cs 0 len n)[i]?=some c→c[j]?=some t→t.one=true∧∃v,w.cell? ⟨r,o+i*n+j,none⟩=some v∧VR g w t v∧g'.κ r (o+i*n+j)=.gI:=by
   intro i j c t hi hj
   obtain⟨_,_,h3⟩:=yS hi hj
   obtain⟨k1,v,k2,k3⟩:=c3 _ _ h3
   have ib:0+i*n+j<cs.length:=(List.getElem?_eq_some_iff.1 h3).1
   refine⟨k1,v,?_,k3,?_⟩
   ·rw[show o+i*n+j=o+(0+i*n+j) by omega];exact k2
   ·rw[show o+i*n+j=o+(i*n+j) by omega];exact gI _ (by omega)
  have:=VR.sl (g:=g') (w:=w) (k:=.own H.length len) (es:=fB cs 0 len n) (r:=r) (o:=o) (cap:=cap) (n:=n) (fun i j=>(w.cell? ⟨r,o+i*n+j,none⟩).getD undef)
   (by
    rw[kO]
    refine⟨?_,h0⟩
    simp only[g']
    simp only[if_true]
    rw[hlen]
    have:o+cap*n=q:=by omega
    rw[this])
   (by rw[kO];exact hc)
   (fun c eB=>by
    obtain⟨i,hi,rfl⟩:=List.mem_map.1 eB
    have hi:=List.mem_range.1 hi
    have:i*n+n≤len*n:=by rw[←Nat.succ_mul];exact Nat.mul_le_mul_right n hi
    rw[List.length_take,List.length_drop];omega)
   (fun i j c t hi hj=>by
    obtain⟨k1,v,k2,_,k4⟩:=key i j c t hi hj
    exact⟨k1,k4,by rw[k2];rfl⟩)
   (fun i j c t hi hj=>by
    obtain⟨_,v,k2,k3,_⟩:=key i j c t hi hj
    rw[k2];exact k3.mono le)
  rw[kO]at this
  exact this
theorem Vw.ok {t t':T}(hv:Vw H t t')(h:SR w0 g H w):∀v,VR g w t v→VR g w t' v:=by
 induction hv with
 | refl t=>exact fun v hv=>hv
 | @ms b off len n cs es src hb hl hn hle h1 h2 ih =>
  intro v hv
  cases hv with
  | @aE _ _ _ _ r o q cap hp hc hq =>
   have hf:=h.cu _ _ hb r o q hp
   have key:∀(i j:Nat) (c:List T) (t':T),es[i]?=some c→c[j]?=some t'→t'.one=true∧∃v,tt g w r (o+off+i*n+j) v∧VR g w t' v:=by
    intro i j c t' hi hj
    obtain⟨k1,k2⟩:=h1 i j c t' hi hj
    obtain⟨_,v,k3,k4⟩:=hf.2 _ _ k1
    exact⟨k2,v,by rw[show o+off+i*n+j=o+(off+i*n+j) by omega];exact k3,ih i j c t' hi hj v k4⟩
   have:=VR.sl (g:=g) (w:=w) (k:=.arg) (es:=es) (r:=r) (o:=o+off) (cap:=cap) (n:=n) (fun i j=>(w.cell? ⟨r,o+off+i*n+j,none⟩).getD undef) trivial (by rw[hl];exact hc) hn
    (fun i j c t' hi hj=>by
     obtain⟨k1,v,k2,_⟩:=key i j c t' hi hj
     refine⟨k1,k2.1,?_⟩
     rw[k2.2];rfl)
    (fun i j c t' hi hj=>by
     obtain⟨_,v,k2,k3⟩:=key i j c t' hi hj
     rw[k2.2];exact k3)
   rw[hl]at this
   exact this
end
def cC (P:Program)(f:FuncId):Bool :=
 match P.funcs[f]? with
 | some fn=>fn.name != "runtime.NumGoroutine"&&fn.body.isSome
 | none=>false
def a9 (P:Program)(mu:Bool):Op→Option D1
 | .call { callee:=.value (.func f),args,.. }=>if cC P f then(dX args.toList).map (.call f)else match u1 P f,dX args.toList with
  | some n,some [x,y]=>some (.b (.Is n x y))
  | _,_=>none
 | .call { callee:=.value (.tmp t),args,.. }=>(dX args.toList).map (.aX (.r t))
 | op=>(aY P mu op).map .b
def pq (ops:Array Oper):Option (Nat×Bool)→Option Gd
 | none=>some none
 | some (j,b)=>match (ops[j]?).bind (·.dst)with
  | some d=>some (some (d,b))
  | none=>none
def ct:X→List Nat
 | .r t=>[t]
 | .c _=>[]
def lN:Option X→List Nat
 | some x=>ct x
 | none=>[]
def u5:Bo→List Nat
 | .aD x | .un _ x | .td _ x | .Ip x | .QI x | .len _ x | .box x | .ld _ _ x | .xZ _ x | .Jc _ _ _ x | .ext _ x | .x0 x | .cap x | .Je x | .oE x | .Jf x | .Iu _ _ x=>ct x
 | .bin _ x y | .my _ _ x y | .beq _ x y | .eqs _ _ x y | .st _ x y | .jF _ x y | .LW _ _ x y | .Jd x y | .LX _ _ _ x y | .ma _ _ _ x y | .del _ x y | .app _ _ _ x y | .M3 _ _ _ x y | .mn x y | .mx x y | .wv _ x y | .Is _ x y | .Jg _ _ _ x y=>ct x++ct y
 | .pick x y z | .xS _ x y z=>ct x++ct y++ct z
 | .build _ ps=>ps.flatMap fun p=>ct p.2.2
 | .o7 _ _ ps | .Iv _ _ ps=>ps.flatMap fun p=>ct p.2
 | .Iq x lo hi=>ct x++lN lo++lN hi
 | .jg _ x lo hi mx=>ct x++lN lo++lN hi++lN mx
 | .M4 _ x hi=>ct x++ct hi
 | .D0 _ l=>l.flatMap ct
 | .alloc _ | .wq=>[]
def rQ:D1→List Nat
 | .b b=>u5 b
 | .call _ as=>as.flatMap ct
 | .aX f as=>ct f++as.flatMap ct
def jM:Gd→List Nat
 | some (t,_)=>[t]
 | none=>[]
def du (l:List Operand):List Nat:=l.filterMap fun | .tmp t=>some t|_=>none
def tmpsOf (o:Oper)(op:D1)(g:Gd):List Nat:=du o.op.operands.toList++(jM g++rQ op)
def dJ (P:Program)(n:Nat)(ops:Array Oper)(mu:Bool)(o:Oper)(wx:List Rd):Option O :=
 match a9 P mu o.op,pq ops o.guard with
 | some op,some g=>if (tmpsOf o op g).all (·<n)&&(o.dst.all (·<n))then some ⟨o.dst,op,g,wx⟩else none
 | _,_=>none
def er (P:Program)(n:Nat)(ops:Array Oper)(mu:Nat→Bool):List Nat→Option (List O)
 | []=>some []
 | i :: is=>match ops[i]? with
  | some o=>match dJ P n ops (mu i) o [],er P n ops mu is with
   | some o,some l=>some (o :: l)
   | _,_=>none
  | none=>none
def bM (o:Oper):List Nat:=(o.after.toList.filter fun e=>Region.binds .any e).map (·.on)
def gS (acc:List Nat)(o:Oper):Nat:=(bM o).foldl (fun s j=>s ||| 2^j ||| acc.getD j 0) 0
def dk:List Oper→List Nat→List Nat
 | [],acc=>acc
 | o :: l,acc=>dk l (acc++[gS acc o])
inductive Kl where|pure|read|make|FH
 deriving DecidableEq
def nK:Bo→Kl
 | .aD _ | .pick _ _ _ | .bin _ _ _ | .beq _ _ _ | .eqs _ _ _ _ | .un _ _ | .td _ _ | .build _ _ | .o7 _ _ _ | .xZ _ _ | .Jc _ _ _ _ | .jF _ _ _ | .LW _ _ _ _ | .Jd _ _ | .LX _ _ _ _ _ | .Iq _ _ _ | .jg _ _ _ _ _
 | .D0 _ _ | .ext _ _ | .mn _ _ | .mx _ _ | .x0 _=>.pure
 | .my _ c _ _=>if c=.slice then .FH else .pure
 | .ld _ _ _ | .ma _ _ _ _ _ | .len _ _ | .Ip _=>.read
 | .alloc _ | .wq=>.make
 | _=>.FH
def BF (o:O):Kl:=match o.op with
 | .b b=>match o.d with|some _=>nK b|none=>.FH
 | _=>.FH
structure It where
 i:Nat
 o:O
 early:Bool
 ts:List Nat
def gl (b:Nat):List It→List Rd
 | []=>[]
 | y :: l=>match y.early,y.o.d,y.o.op with
  | true,some d,.b op=>if nK op=.read∧b.testBit y.i=false then⟨d,op,y.o.g⟩ :: gl b l else gl b l
  | _,_,_=>gl b l
def tO:Op→Bool
 | .alloc _ | .makeMap _ none=>true
 | _=>false
def yT (b:Nat)(before:List It)(x:It)(oper:Oper):Bool :=
 ((bM oper).all fun j=>decide (j<x.i)&&before.any (·.i==j)) &&
 (before.all fun y=>y.early||b.testBit y.i) &&
 (before.all fun y=>y.i != x.i) &&
 (match x.o.d with
  | some d=>(before.all fun y=>y.o.d != some d&&(!y.ts.contains d||(!x.early&&b.testBit y.i)))&&!x.ts.contains d
  | none=>true) &&
 (before.all fun y=>match y.o.d with
  | some d=>!x.ts.contains d||b.testBit y.i
  | none=>true) &&
 (!x.early||(BF x.o != .FH&&(BF x.o != .make||tO oper.op)))
def tP (P:Program)(n:Nat)(ops:Array Oper)(mu:Nat→Bool)(b:Nat)(before:List It)(x:Nat×Bool):Option It :=
 match ops[x.1]? with
 | some o=>match dJ P n ops (mu x.1) o (if x.2 then []else gl b before)with
  | some o'=>let y:It:=⟨x.1,o',x.2,tmpsOf o o'.op o'.g⟩
   if yT b before y o then some y else none
  | none=>none
 | none=>none
def cN (P:Program)(n:Nat)(ops:Array Oper)(mu:Nat→Bool)(bs:List Nat)(before:List It):List (Nat×Bool)→Option (List It)
 | []=>if (List.range ops.size).all fun i=>before.any (·.i==i)then some []else none
 | x :: l=>match tP P n ops mu (bs.getD x.1 0) before x with
  | some y=>(cN P n ops mu bs (before++[y]) l).map (y :: ·)
  | none=>none
structure An where
 mu:List (Nat×Nat)
 ord:List (Nat×List (Nat×Bool))
def aV (P:Program)(n:Nat)(an:An)(top:Bool):Code→Option C
 | .skip=>some .skip
 | .region id ops false=>(er P n ops (fun i=>an.mu.contains (id,i)) (List.range ops.size)).map .ops
 | .region id ops true=>match an.ord.find? (·.1==id)with
  | some (_,ord)=>(cN P n ops (fun i=>an.mu.contains (id,i)) (dk ops.toList []) [] ord).map fun gK=>.ops (gK.map (·.o))
  | none=>none
 | .seq a b=>match aV P n an top a,aV P n an top b with
  | some a,some b=>some (.seq a b)
  | _,_=>none
 | .cond c a b=>match av c,aV P n an top a,aV P n an top b with
  | some x,some a,some b=>if (match c with | .tmp t=>decide (t<n)|_=>true)then some (.cond x a b)else none
  | _,_,_=>none
 | .block id a=>(aV P n an top a).map (.block id)
 | .loop a=>(aV P n an top a).map .loop
 | .exit id=>some (.exit id)
 | .ret=>some .ret
 | .rangeFunc g ps bV body=>match av g,aV P n an false bV,aV P n an false body with
  | some x,some a,some b=>if top&&(ct x).all (·<n)&&ps.toList.all (·<n)then some (.cj n x ps.toList a b)else none
  | _,_,_=>none
 | _=>none
def kQ (P:Program):List ResultVar→Option (List Rs)
 | []=>some []
 | .tmp t :: l=>(kQ P l).map (.t t :: ·)
 | .cell a t :: l=>match P.underlying t,P.info? t with
  | some d,some i=>(kQ P l).map (.cl a (if cS d then i.size else 1) (cS d) :: ·)
  | _,_=>none
def w9 (n:Nat):Rs→Bool
 | .t r | .cl r _ _=>r<n
def aq (P:Program)(an:An)(f:FuncId):Option Fn :=
 match P.funcs[f]? with
 | some fn=>match fn.body,kQ P fn.results.toList with
  | some c,some res=>match aV P fn.ntmps an true c with
   | some c=>if cC P f&&decide (fn.params.size+fn.nfree≤fn.ntmps)&&res.all (w9 fn.ntmps)then some ⟨fn.ntmps,fn.params.size+fn.nfree,res,c⟩else none
   | none=>none
  | _,_=>none
 | none=>none
section
variable {R R':aj} {H:ae}
theorem b0 {x:X}(h:∀t∈ct x,R t=R' t):x.ev R=x.ev R':=by
 cases x with
 | r t=>exact h t (by simp[ct])
 | c v=>rfl
theorem jl {x:Option X}{d:Nat}(h:∀t∈lN x,R t=R' t):fy R d x=fy R' d x:=by
 cases x with
 | none=>rfl
 | some x=>simp only[fy];rw[b0 h]
theorem kR:∀(ps:List (Nat×Nat×X)),(∀t∈ps.flatMap (fun p=>ct p.2.2),R t=R' t)→dF R ps=dF R' ps
 | [],_=>rfl
 | (off,n,x) :: ps,h=>by
  simp only[dF]
  rw[b0 (x:=x) (R':=R') (fun t ht=>h t (by simp[ht])),kR ps (fun t ht=>h t (by rw[List.flatMap_cons];exact List.mem_append_right _ ht))]
theorem mg (n:Nat):∀(ps:List (Nat×X)) (es:List (List T)),(∀t∈ps.flatMap (fun p=>ct p.2),R t=R' t)→gv n es R ps=gv n es R' ps
 | [],_,_=>rfl
 | (i,x) :: ps,es,h=>by
  simp only[gv]
  rw[b0 (x:=x) (R':=R') (fun t ht=>h t (by simp[ht]))]
  split
  ·split
   ·exact mg n ps _ (fun t ht=>h t (by rw[List.flatMap_cons];exact List.mem_append_right _ ht))
   ·rfl
  ·rfl
theorem mh (n:Nat):∀(ps:List (Nat×X)) (es:List (List T)),(∀t∈ps.flatMap (fun p=>ct p.2),R t=R' t)→gw n es R ps=gw n es R' ps
 | [],_,_=>rfl
 | (i,x) :: ps,es,h=>by
  simp only[gw]
  rw[b0 (x:=x) (R':=R') (fun t ht=>h t (by simp[ht]))]
  split
  ·split
   ·exact mh n ps _ (fun t ht=>h t (by rw[List.flatMap_cons];exact List.mem_append_right _ ht))
   ·rfl
  ·rfl
theorem nN:∀(l:List X),(∀t∈l.flatMap ct,R t=R' t)→l.map (X.ev R)=l.map (X.ev R')
 | [],_=>rfl
 | x :: l,h=>by
  simp only[List.map_cons]
  rw[b0 (x:=x) (R':=R') (fun t ht=>h t (by simp[ht])),nN l (fun t ht=>h t (by rw[List.flatMap_cons];exact List.mem_append_right _ ht))]
theorem nO {b:Bo}(h:∀t∈u5 b,R t=R' t):ai R H b=ai R' H b:=by
 cases b<;>simp only[u5,List.mem_append]at h
 case build z ps=>simp only[ai];rw[kR ps h]
 case o7 n z ps=>simp only[ai];rw[mg _ ps _ h]
 case Iv n z ps=>simp only[ai];rw[mh _ ps _ h]
 case D0 f l=>simp only[ai,D2];rw[nN l h]
 case alloc=>rfl
 case wq=>rfl
 case Iq x lo hi =>
  have h1:=b0 (x:=x) (R:=R) (R':=R') (fun t ht=>h t (.inl (.inl ht)))
  have h2:=fun d=>jl (x:=lo) (d:=d) (R:=R) (R':=R') (fun t ht=>h t (.inl (.inr ht)))
  have h3:=fun d=>jl (x:=hi) (d:=d) (R:=R) (R':=R') (fun t ht=>h t (.inr ht))
  simp only[ai,h1,h2,h3]
 case jg n x lo hi mx =>
  have hm:∀m,mx=some m→m.ev R=m.ev R':=fun m e=>b0 (fun t ht=>h t (.inr (by subst e;exact ht)))
  have h1:=b0 (x:=x) (R:=R) (R':=R') (fun t ht=>h t (.inl (.inl (.inl ht))))
  have h2:=fun d=>jl (x:=lo) (d:=d) (R:=R) (R':=R') (fun t ht=>h t (.inl (.inl (.inr ht))))
  have h3:=fun d=>jl (x:=hi) (d:=d) (R:=R) (R':=R') (fun t ht=>h t (.inl (.inr ht)))
  simp only[ai,h1,h2,h3]
  cases mx with
  | none =>
   cases x.ev R' with
   | sl k es=>dsimp only;cases fy R' 0 lo with
    | none=>rfl
    | some l=>cases fy R' es.length hi<;>rfl
   | aE b off len n'=>rfl
   | _=>rfl
  | some m =>
   cases x.ev R' with
   | sl k es=>dsimp only;cases fy R' 0 lo with
    | none=>rfl
    | some l=>cases fy R' es.length hi with
     | none=>rfl
     | some h=>dsimp only;rw[hm m rfl]
   | aE b off len n'=>rfl
   | _=>rfl
 all_goals first
  | (simp only[ai,b0 h];done)
  | (rename_i x;simp only[ai];rw[b0 (x:=x) (R':=R') h])
  | (rename_i x y;simp only[ai];rw[b0 (x:=x) (R':=R') (fun t ht=>h t (.inl ht)),b0 (x:=y) (R':=R') (fun t ht=>h t (.inr ht))])
  | (rename_i x y z;simp only[ai];rw[b0 (x:=x) (R':=R') (fun t ht=>h t (.inl (.inl ht))),b0 (x:=y) (R':=R') (fun t ht=>h t (.inl (.inr ht))),b0 (x:=z) (R':=R') (fun t ht=>h t (.inr ht))])
theorem iQ {g:Gd}(h:∀t∈jM g,R t=R' t):aS R g=aS R' g:=by
 cases g with
 | none=>rfl
 | some p=>obtain⟨t,b⟩:=p;simp only[aS];rw[h t (by simp[jM])]
theorem rR {b:Bo}(hk:nK b=.pure)(H2:ae):ai R H2 b=(ai R H b).map fun p=>(p.1,H2):=by
 cases b<;>simp only[nK]at hk<;>(try (cases hk;done))<;>simp only[ai]
 case jg n x lo hi mx =>
  cases x.ev R with
  | sl k es =>
   dsimp only
   cases fy R 0 lo with
   | none=>rfl
   | some l=>cases fy R es.length hi with
    | none=>rfl
    | some h=>cases mx with
     | none=>dsimp only;split<;>rfl
     | some m=>dsimp only;cases bB (m.ev R)with
      | none=>rfl
      | some m=>dsimp only;split<;>rfl
  | aE b off len n' =>
   dsimp only
   cases fy R 0 lo with
   | none=>rfl
   | some l=>cases fy R len hi with
    | none=>rfl
    | some h=>cases mx with
     | none=>dsimp only;split<;>rfl
     | some m=>rfl
  | cQ b off len n' c =>
   dsimp only
   cases fy R 0 lo with
   | none=>rfl
   | some l=>cases fy R len hi with
    | none=>rfl
    | some h=>cases mx with
     | none=>dsimp only;split<;>rfl
     | some m=>rfl
  | _=>rfl
 all_goals (try rfl)
 all_goals (try (simp[Option.map_map,Function.comp_def];done))
 all_goals (try (simp[Option.map_map,Option.map_bind,Function.comp_def];done))
 all_goals (repeat' split)
 all_goals (try (simp_all [Option.map_map,Function.comp_def];done))
theorem pr {b:Bo}{v:T}{H':ae}(hk:nK b=.pure)(h:ai R H b=some (v,H')):H'=H∧∀H2,ai R H2 b=some (v,H2):=by
 constructor
 ·have h1:=rR (R:=R) (H:=H) hk H
  rw[h]at h1;simp at h1;exact h1
 ·intro H2;rw[rR (H:=H) hk H2,h];rfl
theorem jm {l:ae}{b:Nat}{x:B}(h:H[b]?=some x):(H++l)[b]?=some x:=by
 rw[List.getElem?_append_left (List.getElem?_eq_some_iff.1 h).1];exact h
theorem CP {n:Nat}{t:T}{cs:List T}(l:ae)(h:ku H n t=some cs):ku (H++l) n t=some cs:=by
 unfold ku at *
 cases t<;>simp only[]at h ⊢<;>try (first|exact h|cases h)
 rename_i b off
 cases hb:H[b]? with
 | none=>simp[hb]at h
 | some x=>rw[hb]at h;rw[jm hb];exact h
theorem xa {t:T}{es:List (T×T)}(l:ae)(h:eX H t=some es):eX (H++l) t=some es:=by
 unfold eX at *
 cases t<;>simp only[]at h ⊢<;>try (first|exact h|cases h)
 rename_i b
 cases hb:H[b]? with
 | none=>simp[hb]at h
 | some x=>rw[hb]at h;rw[jm hb];exact h
theorem yU {t:T}{k:Lc}{n:Nat}(l:ae)(h:ey H k t=some n):ey (H++l) k t=some n:=by
 unfold ey at *
 cases k<;>cases t<;>simp only[]at h ⊢<;>try (first|exact h|cases h)
 rename_i b
 cases hb:H[b]? with
 | none=>simp[hb]at h
 | some x=>rw[hb]at h;rw[jm hb];exact h
theorem rS {t:T}{n:Nat}{es:List (List T)}(l:ae)(h:aP H n t=some es):aP (H++l) n t=some es:=by
 unfold aP at *
 cases t<;>simp only[]at h ⊢<;>try (first|exact h|cases h)
 rename_i b off len n'
 cases hb:H[b]? with
 | none=>simp[hb]at h
 | some x=>rw[hb]at h;rw[jm hb];exact h
theorem pt {b:Bo}{v:T}{H':ae}(hk:nK b=.read)(h:ai R H b=some (v,H')):H'=H∧∀l,ai R (H++l) b=some (v,H++l):=by
 cases b<;>simp only[nK]at hk<;>(try (cases hk;done))<;>simp only[ai]at h ⊢
 case my=>split at hk<;>cases hk
 case Ip x =>
  cases he:aP H 1 (x.ev R)with
  | none=>simp[he]at h
  | some es =>
   rw[he]at h
   refine⟨?_,fun l=>?_⟩
   ·dsimp only at h;split at h
    ·cases h
    ·simp only[Option.map_eq_some_iff,Prod.mk.injEq]at h;obtain⟨_,_,_,e⟩:=h;exact e.symm
   ·rw[rS l he]
    dsimp only at h ⊢;split at h
    ·cases h
    ·simp only[Option.map_eq_some_iff,Prod.mk.injEq]at h ⊢
     obtain⟨a,h1,h2,_⟩:=h
     rename_i ba
     exact⟨a,h1,h2,trivial⟩
 case len k x =>
  simp only[Option.map_eq_some_iff,Prod.mk.injEq]at h ⊢
  obtain⟨a,h1,h2,h3⟩:=h
  exact⟨h3.symm,fun l=>⟨a,yU l h1,h2,trivial⟩⟩
 case ld n ag x =>
  cases he:ku H n (x.ev R)with
  | none=>simp[he]at h
  | some cs =>
   simp only[he,Option.map_eq_some_iff,Prod.mk.injEq]at h
   obtain⟨a,h1,h2,h3⟩:=h
   exact⟨h3.symm,fun l=>by simp[CP l he,h1,h2]⟩
 case ma kt z ok m k =>
  split at h
  ·rename_i hh
   simp only[hh,if_true]
   cases he:eX H (m.ev R)with
   | none=>simp[he]at h
   | some es =>
    simp only[he]at h
    simp only[xa _ he]
    split at h
    ·split at h
     ·cases h;exact⟨rfl,fun l=>rfl⟩
     ·cases h
    ·cases h;exact⟨rfl,fun l=>rfl⟩
    ·cases h
  ·cases h
end
theorem rT:∀(l:List Oper) (acc:List Nat),∃rest,dk l acc=acc++rest∧rest.length=l.length
 | [],acc=>⟨[],by simp[dk],rfl⟩
 | o :: l,acc=>by
  obtain⟨r,h,hl⟩:=rT l (acc++[gS acc o])
  exact⟨gS acc o :: r,by simp[dk,h],by simp[hl]⟩
theorem rU:∀(l:List Oper) (acc:List Nat) (k:Nat) (o:Oper),l[k]?=some o→(dk l acc)[acc.length+k]?=some (gS ((dk l acc).take (acc.length+k)) o)
 | [],_,_,_,h=>by simp at h
 | x :: l,acc,0,o,h=>by
  simp at h;subst h
  obtain⟨r,h,_⟩:=rT l (acc++[gS acc x])
  simp[dk,h]
 | x :: l,acc,k+1,o,h=>by
  have:=rU l (acc++[gS acc x]) k o (by simpa using h)
  simp only[List.length_append,List.length_singleton]at this
  simp only[dk]
  rw[show acc.length+(k+1)=acc.length+1+k by omega]
  exact this
theorem pw (acc:List Nat)(t:Nat):∀(l:List Nat) (s:Nat),(l.foldl (fun s j=>s ||| 2^j ||| acc.getD j 0) s).testBit t=true→s.testBit t=true∨∃j∈l,t=j∨(acc.getD j 0).testBit t=true
 | [],s,h=>.inl h
 | x :: l,s,h=>by
  rcases pw acc t l _ h with h|⟨j,hj,h⟩
  ·simp only[Nat.testBit_or,Bool.or_eq_true,Nat.testBit_two_pow,decide_eq_true_eq]at h
   rcases h with(h|h)|h
   ·exact .inl h
   ·exact .inr ⟨x,by simp,.inl h.symm⟩
   ·exact .inr ⟨x,by simp,.inr h⟩
  ·exact .inr ⟨j,by simp[hj],h⟩
theorem rV {acc:List Nat}{o:Oper}{t:Nat}(h:(gS acc o).testBit t=true):∃j∈bM o,t=j∨(acc.getD j 0).testBit t=true:=by
 rcases pw acc t _ _ h with h|h
 ·simp at h
 ·exact h
theorem rW {ops:Array Oper}{D:Nat→Prop}(hD:∀i o,ops[i]?=some o→D i→∀j∈bM o,j<i∧D j) :
  ∀(i:Nat) (o:Oper) (t:Nat),ops[i]?=some o→(∀j∈bM o,j<i∧D j)→((dk ops.toList []).getD i 0).testBit t=true→D t:=by
 intro i
 induction i using Nat.strongRecOn with
 | _ i ih =>
  intro o t ho hp hb
  have h1:=rU ops.toList [] i o (by simpa using ho)
  simp only[List.length_nil,Nat.zero_add]at h1
  rw[List.getD_eq_getElem?_getD,h1,Option.getD_some]at hb
  obtain⟨j,hj,h⟩:=rV hb
  obtain⟨au,QQ⟩:=hp j hj
  rcases h with rfl|h
  ·exact QQ
  ·rw[List.getD_eq_getElem?_getD,List.getElem?_take,if_pos au,←List.getD_eq_getElem?_getD]at h
   have gr:i<ops.size:=(Array.getElem?_eq_some_iff.1 ho).1
   have QR:ops[j]?=some ops[j]:=Array.getElem?_eq_getElem (Nat.lt_trans au gr)
   exact ih j au ops[j] t QR (fun k hk=>hD j _ QR QQ k hk) h
def Fw (r:Option Nat):Fence:={ fn:=fun _=>True,depth:=none,alive:=false,round:=r }
theorem rX {r r':Option Nat}{n:Nat}{P:Program}{f:FuncId}{args:Array Value}{w:World}{K:Ending→World→Prop}(h:CallsIn (Fw r) n P f args w K):CallsIn (Fw r') n P f args w K:=h
section
variable {P:Program} {w0 w:World} {g:Ctx} {H H':ae} {R:aj} {a:Act} {n:Nat} {ops:Array Oper}
theorem aN {mu:Bool}{o:Oper}{st:List Rd}{y:O}(h:dJ P n ops mu o st=some y):∃op gd,a9 P mu o.op=some op∧pq ops o.guard=some gd∧y=⟨o.dst,op,gd,st⟩ ∧
  (∀t∈tmpsOf o op gd,t<n)∧∀d,o.dst=some d→d<n:=by
 unfold dJ at h
 cases h1:a9 P mu o.op with
 | none=>simp[h1]at h
 | some op=>cases h2:pq ops o.guard with
  | none=>simp[h1,h2]at h
  | some gd =>
   simp only[h1,h2]at h
   split at h
   ·rename_i hh
    simp only[Bool.and_eq_true,List.all_eq_true,decide_eq_true_eq]at hh
    exact⟨op,gd,rfl,rfl,(Option.some.inj h).symm,hh.1,fun d hd=>by have:=hh.2;simp[hd]at this;exact this⟩
   ·cases h
def eE (g:Ctx)(w:World)(R:aj)(a:Act)(ts:List Nat):Prop:=∀t∈ts,VR g w (R t) (a.tmps.getD t undef)
theorem eE.sub {ts Fb:List Nat}(h:eE g w R a ts)(hs:∀t∈Fb,t∈ts):eE g w R a Fb:=fun t ht=>h t (hs t ht)
theorem px {l:List Operand}(h:eE g w R a (du l)):RV g w R a.eval l:=by
 intro x hx y hy
 cases x with
 | tmp t=>simp only[av,Option.some.injEq]at hy;subst hy;exact h t (by simp only[du,List.mem_filterMap];exact⟨_,hx,rfl⟩)
 | const v =>
  simp only[av,Option.map_eq_some_iff]at hy
  obtain⟨t,h1,rfl⟩:=hy
  exact ji h1
 | «global» x=>simp[av]at hy
 | func f=>simp only[av,Option.some.injEq]at hy;subst hy;exact .fn rfl (by simp)
theorem lO {o:Oper}{gd:Gd}(hg:pq ops o.guard=some gd)(hn:a.tmps.size=n)(hd:∀t∈jM gd,t<n)(h:eE g w R a (jM gd)):Region.wanted o (yielded ops a.tmps)=aS R gd:=by
 unfold Region.wanted
 cases ho:o.guard with
 | none=>rw[ho]at hg;simp only[pq,Option.some.injEq]at hg;subst hg;rfl
 | some p =>
  obtain⟨j,b⟩:=p
  rw[ho]at hg
  simp only[pq]at hg
  cases gT:(ops[j]?).bind (·.dst)with
  | none=>simp[gT]at hg
  | some d =>
   simp only[gT,Option.some.injEq]at hg;subst hg
   have hv:=h d (by simp[jM])
   have au:d<a.tmps.size:=by rw[hn];exact hd d (by simp[jM])
   simp only[yielded,gT,Option.bind_some,aS]
   rw[Array.getD_eq_getD_getElem?,Array.getElem?_eq_getElem au,Option.getD_some]at hv
   rw[Array.getElem?_eq_getElem au]
   generalize R d=t at *
   generalize a.tmps[d]=v at *
   cases hv<;>simp
theorem fp {mu:Bool}{o:Op}{op:D1}(h:a9 P mu o=some op):∀c,o≠.defer c:=by
 rintro c rfl;simp[a9,aY]at h
theorem gA {mu:Bool}{o:Op}{b:Bo}(h:a9 P mu o=some (.b b)):aY P mu o=some b:=by
 unfold a9 at h
 split at h
 ·split at h
  ·simp only[Option.map_eq_some_iff]at h;obtain⟨_,_,h⟩:=h;cases h
  ·split at h
   ·rename_i h1 h2
    cases h
    simp only[aY,h1,h2]
   ·cases h
 ·simp only[Option.map_eq_some_iff]at h;obtain⟨_,_,h⟩:=h;cases h
 ·simp only[Option.map_eq_some_iff]at h;obtain⟨x,h1,h⟩:=h;cases h;exact h1
theorem yV {r:Option Nat}{mu:Bool}{o:Oper}{b:Bo}{t:T}(hc:a9 P mu o.op=some (.b b))(h:SR w0 g H w)(hr:eE g w R a (du o.op.operands.toList))(he:ai R H b=some (t,H')) :
  ∃v w' g',(∀(K:Act→World→Prop) (Q:Exit→Act→World→Prop),K (a.put o.dst v) w'→o.wpIn (Fw r) 0 P a w K Q)∧Le g w g' w'∧SR w0 g' H' w'∧VR g' w' t v∧Fr g H g' H':=by
 obtain⟨nx,v,w',g',h1,h2,h3⟩:=FG (fun _=>rfl) (gA hc) h (px hr) he
 refine⟨v,w',g',fun K Q hk=>⟨fun _ _=>trivial,?_⟩,h3⟩
 rw[Oper.semAt_eq _ _ _ (fp hc),h1]
 rcases h2 with rfl|⟨rfl,rfl⟩
 ·exact hk
 ·exact hk
theorem tQ {mu:Bool}{o:Op}{x:X}(h:aY P mu o=some (.oE x)):∃it,o=.next it false∧av it=some x:=by
 cases o
 case next it str =>
  cases str<;>simp only[aY]at h<;>(try (cases h;done))
  simp only[Option.map_eq_some_iff,Bo.oE.injEq]at h
  obtain⟨y,h1,rfl⟩:=h
  exact⟨it,rfl,h1⟩
 case range ty m =>
  simp only[aY]at h
  split at h
  ·simp only[Option.map_eq_some_iff]at h;obtain⟨_,_,h⟩:=h;cases h
  ·cases h
 case makeMap ty r =>
  cases r<;>simp only[aY]at h<;>cases h
 case makeFunc fn first iB =>
  cases fn<;>simp only[aY]at h<;>(try (cases h;done))
  split at h
  ·simp only[Option.map_eq_some_iff]at h;obtain⟨_,_,h⟩:=h;cases h
  ·cases h
 case call c =>
  obtain⟨callee,args,fV⟩:=c
  cases callee
  case value x =>
   cases x<;>simp only[aY]at h<;>(try (cases h;done))
   split at h<;>cases h
  case builtin b =>
   simp only[aY,Option.bind_eq_some_iff]at h
   obtain⟨l,_,h⟩:=h
   unfold gz at h
   split at h
   ·have hz:∀tl l b',rM P tl l=some b'→b'≠.oE x:=by
     rintro tl l b' hb rfl
     simp only[rM]at hb
     (repeat' split at hb)<;>first|(cases hb;done)|(simp at hb;done)
    split at h
    ·rename_i b' hb;exact absurd (Option.some.inj h) (hz _ _ _ hb)
    ·simp only[jk]at h
     (repeat' split at h)<;>first|(cases h;done)|(simp at h;done)
   all_goals ((repeat' split at h)<;>first|(cases h;done)|(simp at h;done))
  all_goals (simp only[aY]at h;cases h)
 all_goals simp only[aY]at h
 all_goals first|(cases h;done)|(simp only[Option.map_eq_some_iff]at h;obtain⟨_,_,h⟩:=h;cases h;done)|skip
 all_goals (try simp only[Option.bind_eq_some_iff]at h)
 all_goals (try (obtain⟨_,_,h⟩:=h))
 all_goals (try simp only[yM,pk,pj,ka,tK,lI,wW,lJ,wX,wY,tL]at h)
 all_goals first|((repeat' split at h)<;>first|(cases h;done)|(simp at h;done))|skip
theorem yW {r:Option Nat}{mu:Bool}{o:Oper}{x:X}{b bi:Nat}{es:List (T×T)}{ix:List Nat}{cur:Option Nat}(hc:a9 P mu o.op=some (.b (.oE x)))(h:SR w0 g H w)(hr:eE g w R a (du o.op.operands.toList))
  (hx:x.ev R=.ptr bi 0) (hb:H[b]?=some (.da es ix bi cur)) :
  ∃t H' v w' g',kz H b bi es ix t H'∧(∀(K:Act→World→Prop) (Q:Exit→Act→World→Prop),K (a.put o.dst v) w'→o.wpIn (Fw r) 0 P a w K Q)∧Le g w g' w'∧SR w0 g' H' w'∧VR g' w' t v∧Fr g H g' H':=by
 have jj:=fp hc
 obtain⟨it,ho,h1⟩:=tQ (gA hc)
 have hv:=px hr it (by rw[ho];simp[Op.operands]) x h1
 rw[hx]at hv
 obtain⟨t,H',hn,v,w',g',bJ,h3⟩:=CA (P:=P) (ty:=o.type) h hv hb
 refine⟨t,H',v,w',g',hn,fun K Q hk=>⟨fun _ _=>trivial,?_⟩,h3⟩
 rw[Oper.semAt_eq _ _ _ jj]
 have e:(execOp a.eval o).run P w=.ok (.value v) w':=by
  obtain⟨dst,op,ty,pos,after,guard⟩:=o
  simp only at ho;subst ho
  simp[execOp,bJ]
 rw[e]
 exact hk
theorem gU {f:FuncId}{args:Array Value}(hf:cC P f=true):(callFunc f args).run P w=.ok (.enter f args) w:=by
 unfold cC at hf
 cases h:P.funcs[f]? with
 | none=>simp[h]at hf
 | some fn =>
  simp only[h,Bool.and_eq_true,bne_iff_ne,ne_eq]at hf
  obtain⟨c,hb⟩:=Option.isSome_iff_exists.1 hf.2
  simp[callFunc,h,hf.1,hb]
def tR (r:Option Nat)(P:Program)(o:Oper)(a:Act)(K:Act→World→Prop):Ending→World→Prop:=fun e w'=>∃v,e=.returned v∧K (a.put o.dst v) w'
theorem upon_enter {r:Option Nat}{o:Oper}{f:FuncId}{args:Array Value}{K:Act→World→Prop}{Q:Exit→Act→World→Prop}(h:CallsIn (Fw none) 0 P f args w (tR r P o a K)) :
  o.uponIn (Fw r) 0 P a K Q (.ok (.enter f args) w):=by
 rw[Oper.uponIn_enter]
 refine⟨fun h=>by simp[Fw]at h,(rX h).mono fun e w' he=>?_⟩
 obtain⟨v,rfl,hk⟩:=he
 exact hk
theorem qp {mu:Bool}{op:Op}{f:Nat}{as:List X}(h:a9 P mu op=some (.call f as)) :
  ∃args fV,op=.call { callee:=.value (.func f),args:=args,argTypes:=fV }∧cC P f=true∧dX args.toList=some as:=by
 cases op
 case call c =>
  obtain⟨callee,args,fV⟩:=c
  cases callee
  case value x =>
   cases x
   case func f' =>
    simp only[a9]at h
    split at h
    ·rename_i hc
     simp only[Option.map_eq_some_iff]at h
     obtain⟨Bz,h1,h2⟩:=h
     cases h2
     exact⟨args,fV,rfl,hc,h1⟩
    ·split at h<;>cases h
   all_goals simp[a9,aY]at h
  all_goals (simp only[a9,Option.map_eq_some_iff]at h;obtain⟨_,_,h⟩:=h;cases h)
 all_goals (simp only[a9,Option.map_eq_some_iff]at h;obtain⟨_,_,h⟩:=h;cases h)
theorem jN {mu:Bool}{op:Op}{x:X}{as:List X}(h:a9 P mu op=some (.aX x as)) :
  ∃t args fV,x=.r t∧op=.call { callee:=.value (.tmp t),args:=args,argTypes:=fV }∧dX args.toList=some as:=by
 cases op
 case call c =>
  obtain⟨callee,args,fV⟩:=c
  cases callee
  case value x =>
   cases x
   case tmp t =>
    simp only[a9,Option.map_eq_some_iff]at h
    obtain⟨Bz,h1,h2⟩:=h
    cases h2
    exact⟨t,args,fV,rfl,rfl,h1⟩
   case func f' =>
    simp only[a9]at h
    split at h
    ·simp only[Option.map_eq_some_iff]at h
     obtain⟨Bz,h1,h2⟩:=h
     cases h2
    ·split at h<;>cases h
   all_goals simp[a9,aY]at h
  all_goals (simp only[a9,Option.map_eq_some_iff]at h;obtain⟨_,_,h⟩:=h;cases h)
 all_goals (simp only[a9,Option.map_eq_some_iff]at h;obtain⟨_,_,h⟩:=h;cases h)
theorem xb {r:Option Nat}{mu:Bool}{o:Oper}{f:Nat}{as:List X}(hc:a9 P mu o.op=some (.call f as))(hr:eE g w R a (du o.op.operands.toList)) :
  ∃args:List Value,aW g w (as.map (X.ev R)) args ∧
   ∀(K:Act→World→Prop) (Q:Exit→Act→World→Prop),cC P f=true→CallsIn (Fw none) 0 P f args.toArray w (tR r P o a K)→o.wpIn (Fw r) 0 P a w K Q:=by
 have jj:=fp hc
 obtain⟨args,fV,ho,gm,h1⟩:=qp hc
 have hv:=dY (ρ:=a.eval) args.toList as h1 (px (hr.sub fun t ht=>by
  simp only[du,List.mem_filterMap]at ht ⊢
  obtain⟨x,hx,e⟩:=ht
  exact⟨x,by rw[ho];simp only[Op.operands,Call.operands];simp at hx;simp[hx],e⟩))
 refine⟨args.toList.map a.eval,hv,fun K Q _ hk=>⟨fun _ _=>trivial,?_⟩⟩
 rw[Oper.semAt_eq _ _ _ jj]
 have bJ:(execOp a.eval o).run P w=.ok (.enter f (args.toList.map a.eval).toArray) w:=by
  have:=gU (P:=P) (w:=w) (args:=(args.toList.map a.eval).toArray) gm
  have e2:(args.toList.map a.eval).toArray=args.map a.eval:=by rw[←Array.toList_map]
  rw[e2]at this ⊢
  simp only[execOp,ho,resolve,Act.eval,Deferred.ofValue,invoke]
  simpa using this
 rw[bJ]
 exact upon_enter hk
theorem tT {r:Option Nat}{mu:Bool}{o:Oper}{x:X}{f:Nat}{cs:List T}{as:List X}(hc:a9 P mu o.op=some (.aX x as))(hr:eE g w R a (du o.op.operands.toList))(hx:x.ev R=.fn f cs) :
  ∃args:List Value,aW g w (as.map (X.ev R)++cs) args ∧
   ∀(K:Act→World→Prop) (Q:Exit→Act→World→Prop),cC P f=true→CallsIn (Fw none) 0 P f args.toArray w (tR r P o a K)→o.wpIn (Fw r) 0 P a w K Q:=by
 have jj:=fp hc
 obtain⟨t,args,fV,rfl,ho,h1⟩:=jN hc
 have hv:=dY (ρ:=a.eval) args.toList as h1 (px (hr.sub fun t ht=>by
  simp only[du,List.mem_filterMap]at ht ⊢
  obtain⟨x,hx,e⟩:=ht
  exact⟨x,by rw[ho];simp only[Op.operands,Call.operands];simp at hx;simp[hx],e⟩))
 have hf:=hr t (by rw[ho];simp only[du,List.mem_filterMap];exact⟨.tmp t,by simp[Op.operands,Call.operands],rfl⟩)
 simp only[X.ev]at hx
 rw[hx]at hf
 generalize w8:a.tmps.getD t undef=vf at hf
 cases hf with
 | @fn _ _ vs hl tC =>
  refine⟨args.toList.map a.eval++vs.toList,hv.append ⟨by simp[hl],fun i t v ha hb=>tC i t v ha (by simpa using hb)⟩,fun K Q gm hk=>⟨fun _ _=>trivial,?_⟩⟩
  rw[Oper.semAt_eq _ _ _ jj]
  have bJ:(execOp a.eval o).run P w=.ok (.enter f (args.toList.map a.eval++vs.toList).toArray) w:=by
   have:=gU (P:=P) (w:=w) (args:=(args.toList.map a.eval++vs.toList).toArray) gm
   have e2:(args.toList.map a.eval++vs.toList).toArray=args.map a.eval++vs:=by rw[←Array.toList_map];simp
   rw[e2]at this ⊢
   have e:a.eval (.tmp t)=.func (.func f) #[] vs:=w8
   simp only[execOp,ho,resolve,e,Deferred.ofValue,invoke]
   simpa using this
  rw[bJ]
  exact upon_enter hk
end
def jO:T→Option Nat
 | .ptr b _ | .map b=>some b
 | _=>none
def gV (R:aj)(y:It):Option Nat:=match y.o.d,y.o.op with
 | some d,.b (.alloc _)=>jO (R d)
 | some d,.b .wq=>jO (R d)
 | _,_=>none
def oU (g:Ctx)(N:Nat)(R:aj)(H:ae)(y:It):Prop :=
 (aS R y.o.g=false∧∀d,y.o.d=some d→R d=bq) ∨
 (aS R y.o.g=true∧∃d b,y.o.d=some d∧y.o.op=.b b∧(
  ((nK b=.pure∨nK b=.read)∧ai R H b=some (R d,H)) ∨
  (∃k z,b=.alloc z∧R d=.ptr k 0∧H[k]?=some (.cells z)∧g.φ k=none∧N≤k) ∨
  (∃k,b=.wq∧R d=.map k∧H[k]?=some (.map [])∧g.φ k=none∧N≤k)))
theorem oU.mono {g g':Ctx}{N:Nat}{R R':aj}{H H':ae}{y:It}(h:oU g N R H y)(hg:∀t∈jM y.o.g,R' t=R t)(hr:∀t∈rQ y.o.op,R' t=R t)(hd:∀d,y.o.d=some d→R' d=R d)
  (JO:∀d b,aS R y.o.g=true→y.o.d=some d→y.o.op=.b b→nK b=.read→ai R H b=some (R d,H)→ai R H' b=some (R d,H'))
  (rm:∀k x,gV R y=some k→H[k]?=some x→(∀e,x≠.tok e)→g.φ k=none→N≤k→H'[k]?=some x∧g'.φ k=none):oU g' N R' H' y:=by
 have hw:aS R' y.o.g=aS R y.o.g:=iQ hg
 rcases h with⟨h1,h2⟩|⟨h1,d,b,h2,h3,h4⟩
 ·exact .inl ⟨hw▸h1,fun d e=>by rw[hd d e];exact h2 d e⟩
 ·refine .inr ⟨hw▸h1,d,b,h2,h3,?_⟩
  rw[hd d h2]
  rw[h3]at hr
  rcases h4 with⟨hk,he⟩|⟨k,z,rfl,e1,e2,e3,e4⟩|⟨k,rfl,e1,e2,e3,e4⟩
  ·refine .inl ⟨hk,?_⟩
   rw[nO (R:=R') (R':=R) hr]
   rcases hk with hk|hk
   ·exact(pr hk he).2 H'
   ·exact JO d b h1 h2 h3 hk he
  ·have hm:=rm k _ (by simp[gV,h2,h3,e1,jO]) e2 (by simp) e3 e4
   exact .inr (.inl ⟨k,z,rfl,e1,hm.1,hm.2,e4⟩)
  ·have hm:=rm k _ (by simp[gV,h2,h3,e1,jO]) e2 (by simp) e3 e4
   exact .inr (.inr ⟨k,rfl,e1,hm.1,hm.2,e4⟩)
theorem nP (a:Act)(d:Option Nat)(v:Value)(t:Nat)(hd:∀e,d=some e→e<a.tmps.size):(a.put d v).tmps.getD t undef=if d=some t then v else a.tmps.getD t undef:=by
 cases d with
 | none=>simp[Act.put]
 | some d =>
  have au:=hd d rfl
  simp only[Act.put]
  by_cases e:d=t
  ·subst e;simp[Array.getD_eq_getD_getElem?,au]
  ·rw[if_neg (by simpa using e),Array.getD_eq_getD_getElem?,Array.getD_eq_getD_getElem?,Array.getElem?_setIfInBounds_ne e]
theorem nQ (a:Act)(d:Option Nat)(v:Value):(a.put d v).tmps.size=a.tmps.size:=by cases d<;>simp[Act.put]
theorem fH (a:Act)(d:Option Nat)(v:Value):(a.put d v).defers=a.defers:=by cases d<;>simp[Act.put]
theorem bG {R:aj}{d:Option Nat}{v:T}{t:Nat}(h:d≠some t):aR R d v t=R t:=by
 cases d with
 | none=>rfl
 | some d=>simp only[aR,iq];rw[if_neg];rintro rfl;exact h rfl
theorem fX {R:aj}{v:T}{t:Nat}:aR R (some t) v t=v:=by simp[aR,iq]
theorem SR.Nv {w0 w:World}{g:Ctx}{H:ae}(h:SR w0 g H w){x:B}(hx:(∃cs,x=.cells cs)∨∃es,x=.map es):SR w0 g (H++[x]) w:=by
 refine⟨h.size,h.gM,h.wH,h.fresh,fun b y hy=>by have:=h.ni b y hy;simp;omega,fun t e y hy=>by have:=h.fe t e y hy;simp;omega,fun b y hy=>?_,h.ng,h.env⟩
 by_cases hb:b=H.length
 ·subst hb
  rw[dg]at hy
  have hn:=h.Ce (b:=H.length) (Nat.le_refl _)
  cases hy
  rcases hx with⟨cs,rfl⟩|⟨es,rfl⟩<;>intro r o q hq<;>rw[hn]at hq<;>cases hq
 ·exact h.cu b y (bT hb hy)
theorem SR.drew {w0 w w':World}{g:Ctx}{H:ae}(h:SR w0 g H w)(tr:Tr w w' eY fW)(hz:w'.heap.size=w.heap.size):SR w0 g H w'∧Le g w g w':=by
 have le:Le g w g w':=Le.fD tr (fun _ _ h=>h) (fun _ _ h=>h) (fun _ _ _ h=>h) (fun _ _ hs=>hs.elim)
 refine⟨?_,le⟩
 exact h.step (fun _=>False) tr le (fun _ _ hs=>hs.elim) (fun _ hm=>hm.elim) (fun r o hr=>h.fresh r o (by omega)) h.ni h.fe (fun _ _ _=>rfl) (fun _ _ _ _=>⟨id,id⟩) (fun _ _ _ _=>rfl) (fun b x hx=>.inl ⟨id,hx⟩)
section
variable {P:Program} {w0 w:World} {g:Ctx} {H:ae} {a:Act}
theorem rY {r:Option Nat}{mu:Bool}{o:Oper}{z:List T}{k:Nat}(hm:tO o.op=true)(hc:a9 P mu o.op=some (.b (.alloc z)))(h:SR w0 g H w)(hk:H[k]?=some (.cells z))(hn:g.φ k=none) :
  ∃v w' g',(∀(K:Act→World→Prop) (Q:Exit→Act→World→Prop),K (a.put o.dst v) w'→o.wpIn (Fw r) 0 P a w K Q)∧Le g w g' w'∧SR w0 g' H w'∧VR g' w' (.ptr k 0) v∧∀b,g.φ b=none→b≠k→g'.φ b=none:=by
 obtain⟨dst,op,ty,pos,after,guard⟩:=o
 simp only at hm hc
 have hc:=gA hc
 unfold tO at hm
 split at hm
 ·rename_i t _
  simp only[aY,Option.map_eq_some_iff]at hc
  obtain⟨z',h1,h2⟩:=hc
  cases h2
  obtain⟨i,zv,h2,h3,h4⟩:=dZ h1
  obtain⟨hv,ho⟩:=cG (g:=g) (w:=w) _ _ h4
  have tr:Tr w w eY fW:=Tr.refl w
  obtain⟨le,sr,fr⟩:=h.mut (c:=zv.cells) (ty:=t) (H':=H) (b:=k) tr rfl hk hn (fun b' x _ hx=>.inl hx) (Nat.le_refl _) (fun b' x hx _ _ _=>hx) (by simpa using hv.Fl ho)
  refine⟨.pointer (some ⟨w.heap.size,0,none⟩),_,_,fun K Q hk=>⟨fun _ _=>trivial,?_⟩,le,sr,.ptr (r:=w.heap.size) (o:=0) (q:=zv.cells.size) (by simp[Ctx.at]),fun b hb ba=>by simp only[Ctx.at,Ctx.row];rw[if_neg ba];exact hb⟩
  rw[Oper.semAt_eq _ _ _ (by rintro c⟨⟩)]
  have bJ:(execOp a.eval ⟨dst,.alloc t,ty,pos,after,guard⟩).run P w=.ok (.value (.pointer (some ⟨w.heap.size,0,none⟩))) (w.alloc (.cells zv.cells t)):=by
   simp[execOp,Instr.alloc,zeroValue,aO h2,h3,newVar,newRow]
  rw[bJ]
  exact hk
 ·simp[aY]at hc
 ·cases hm
theorem xc {r:Option Nat}{mu:Bool}{o:Oper}{k:Nat}(hm:tO o.op=true)(hc:a9 P mu o.op=some (.b .wq))(h:SR w0 g H w)(hk:H[k]?=some (.map []))(hn:g.φ k=none) :
  ∃v w' g',(∀(K:Act→World→Prop) (Q:Exit→Act→World→Prop),K (a.put o.dst v) w'→o.wpIn (Fw r) 0 P a w K Q)∧Le g w g' w'∧SR w0 g' H w'∧VR g' w' (.map k) v∧∀b,g.φ b=none→b≠k→g'.φ b=none:=by
 obtain⟨dst,op,ty,pos,after,guard⟩:=o
 simp only at hm hc
 have hc:=gA hc
 unfold tO at hm
 split at hm
 ·simp[aY]at hc
 ·rename_i t _
  obtain⟨le,sr⟩:=h.yA (H':=H) (b:=k) hk hn (fun b' x _ hx=>hx) (Nat.le_refl _)
  refine⟨.map (some w.heap.size),_,_,fun K Q hk=>⟨fun _ _=>trivial,?_⟩,le,sr,.map (r:=w.heap.size) (o:=0) (q:=0) (by simp[Ctx.at]),fun b hb ba=>by simp only[Ctx.at,Ctx.row];rw[if_neg ba];exact hb⟩
  rw[Oper.semAt_eq _ _ _ (by rintro c⟨⟩)]
  have bJ:(execOp a.eval ⟨dst,.makeMap t none,ty,pos,after,guard⟩).run P w=.ok (.value (.map (some w.heap.size))) (w.alloc (.map #[] 0)):=by
   simp[execOp,Instr.makeMap]
  rw[bJ]
  exact hk
 ·cases hm
end
theorem Fr.ext (g:Ctx)(H l:ae):Fr g H g (H++l):=⟨by simp,fun b x hx _ hn=>⟨jm hx,hn⟩⟩
structure Dr (P:Program)(n:Nat)(ops:Array Oper)(mu:Nat→Bool)(w0:World)(df:List Deferred)(mk:T)(g0:Ctx)(ws:World)(H0:ae)
  (pre:List It) (L:Array Bool) (g:Ctx) (R:aj) (H:ae) (a:Act) (w:World):Prop where
 tU:L.size=ops.size
 cmp:∀y∈pre,∃o,ops[y.i]?=some o∧(∃st,dJ P n ops (mu y.i) o st=some y.o)∧y.ts=tmpsOf o y.o.op y.o.g
 rd:∀y∈pre,∀z∈pre,z.early=true→∀d,z.o.d=some d→d∈y.ts→((dk ops.toList []).getD y.i 0).testBit z.i=true
 dd:∀y∈pre,∀z∈pre,∀d,y.o.d=some d→z.o.d=some d→y.i=z.i
 kl:∀y∈pre,y.early=true→∀o,ops[y.i]?=some o→BF y.o=.make→tO o.op=true
 uniq:∀y∈pre,∀z∈pre,y.i=z.i→y=z
 oV:∀y∈pre,∀o,ops[y.i]?=some o→∀j∈bM o,j<y.i
 closed:∀i o,ops[i]?=some o→L.getD i false=true→∀j∈bM o,j<i∧L.getD j false=true
 sub:∀i,L.getD i false=true→∃y∈pre,y.i=i
 nR:∀y∈pre,y.early=false→L.getD y.i false=true
 sr:SR w0 g H w
 le:Le g0 ws g w
 fr:Fr g0 H0 g H
 qq:a.tmps.size=n
 qt:∀t,t<n→(∀y∈pre,L.getD y.i false=false→y.o.d≠some t)→VR g w (R t) (a.tmps.getD t undef)
 dP:∀y∈pre,L.getD y.i false=false→oU g H0.length R H y
 inj:∀y∈pre,∀z∈pre,L.getD y.i false=false→L.getD z.i false=false→y.i≠z.i→∀k,gV R y=some k→gV R z≠some k
 Ed:a.defers=df
 Ee:R n=mk
section
variable {P:Program} {n:Nat} {ops:Array Oper} {mu:Nat→Bool} {w0 w ws:World} {df:List Deferred} {mk:T} {g g0:Ctx} {H H0 H':ae} {pre:List It} {L:Array Bool} {R:aj} {a:Act} {r:Option Nat}
theorem jn {i:Nat}(h:i∈Region.ready .any ops L):L.getD i false=false∧∃o,ops[i]?=some o∧∀j∈bM o,L.getD j false=true:=by
 obtain⟨h1,o,h2,h3⟩:=mem_ready.1 h
 refine⟨?_,o,h2,fun j hj=>?_⟩
 ·cases hi:L[i]? with
  | none=>simp[Array.getD_eq_getD_getElem?,hi]at h1
  | some b=>simp[Array.getD_eq_getD_getElem?,hi]at h1 ⊢;exact h1
 ·simp only[bM,List.mem_map,List.mem_filter]at hj
  obtain⟨e,⟨he,hb⟩,rfl⟩:=hj
  exact h3 e (by simpa using he) hb
theorem Dr.bit (h:Dr P n ops mu w0 df mk g0 ws H0 pre L g R H a w){i:Nat}{o:Oper}{t:Nat}(ho:ops[i]?=some o)(hp:∀j∈bM o,j<i∧L.getD j false=true)
  (hb:((dk ops.toList []).getD i 0).testBit t=true):L.getD t false=true :=
 rW (D:=fun i=>L.getD i false=true) h.closed i o t ho hp hb
theorem cD {i j:Nat}(hi:i<L.size):(L.setIfInBounds i true).getD j false=if i=j then true else L.getD j false:=by
 by_cases e:i=j
 ·subst e;simp[Array.getD_eq_getD_getElem?,hi]
 ·rw[if_neg e,Array.getD_eq_getD_getElem?,Array.getD_eq_getD_getElem?,Array.getElem?_setIfInBounds_ne e]
theorem fh {o:Oper}{y:It}(h:y.ts=tmpsOf o y.o.op y.o.g):(∀t∈jM y.o.g,t∈y.ts)∧(∀t∈rQ y.o.op,t∈y.ts)∧∀t∈du o.op.operands.toList,t∈y.ts:=by
 rw[h];unfold tmpsOf
 exact⟨fun t ht=>by simp[ht],fun t ht=>by simp[ht],fun t ht=>by simp[ht]⟩
theorem Dr.look (h:Dr P n ops mu w0 df mk g0 ws H0 pre L g R H a w){i:Nat}{o:Oper}{ts:List Nat}(ho:ops[i]?=some o)(hp:∀j∈bM o,j<i∧L.getD j false=true)(hn:∀t∈ts,t<n)
  (hz:∀z∈pre,z.early=true→∀d,z.o.d=some d→d∈ts→((dk ops.toList []).getD i 0).testBit z.i=true):eE g w R a ts:=by
 intro t ht
 refine h.qt t (hn t ht) fun z mO hu hd=>?_
 cases he:z.early with
 | false=>rw[h.nR z mO he]at hu;cases hu
 | true=>rw[h.bit ho hp (hz z mO he t hd ht)]at hu;cases hu
theorem Dr.late (h:Dr P n ops mu w0 df mk g0 ws H0 pre L g R H a w){y:It}(hy:y∈pre)(hr:y.i∈Region.ready .any ops L) :
  ∃v w' g',(∀(K:Act→World→Prop) (Q:Exit→Act→World→Prop),K (a.put y.o.d v) w'→wpOpIn (Fw r) 0 P ops Q y.i K a w) ∧
   Dr P n ops mu w0 df mk g0 ws H0 pre (L.setIfInBounds y.i true) g' R H (a.put y.o.d v) w':=by
 obtain⟨FI,o,ho,tV⟩:=jn hr
 obtain⟨o',jY,⟨st,dh⟩,tf⟩:=h.cmp y hy
 rw[ho]at jY;cases jY
 obtain⟨op,gd,IH,QS,FJ,Nw,yX⟩:=aN dh
 have hd:y.o.d=o.dst:=by rw[FJ]
 have JP:y.o.op=op:=by rw[FJ]
 have Nx:y.o.g=gd:=by rw[FJ]
 obtain⟨Sz,Mb,SA⟩:=fh tf
 have hp:∀j∈bM o,j<y.i∧L.getD j false=true:=fun j hj=>⟨h.oV y hy o ho j hj,tV j hj⟩
 have kC:eE g w R a y.ts:=h.look ho hp (fun t ht=>Nw t (by rw[tf,JP,Nx]at ht;exact ht)) (h.rd y hy)
 have Mc:Region.wanted o (yielded ops a.tmps)=aS R y.o.g:=by
  rw[Nx];exact lO QS h.qq (fun t ht=>Nw t (by simp[tmpsOf,ht])) (kC.sub (by rw[←Nx];exact Sz))
 have gr:y.i<L.size:=by rw[h.tU];exact(Array.getElem?_eq_some_iff.1 ho).1
 have Ny:∀e,y.o.d=some e→e<a.tmps.size:=fun e he=>by rw[h.qq];exact yX e (hd▸he)
 have cP:∀v w' g',Le g w g' w'→SR w0 g' H w'→(∀d,y.o.d=some d→VR g' w' (R d) v)→Fr g0 H0 g' H→(∀z∈pre,L.getD z.i false=false→z.i≠y.i→oU g' H0.length R H z) →
   Dr P n ops mu w0 df mk g0 ws H0 pre (L.setIfInBounds y.i true) g' R H (a.put y.o.d v) w':=by
  intro v w' g' le sr hv fr JQ
  refine { tU:=(by simp[h.tU]),cmp:=h.cmp,rd:=h.rd,dd:=h.dd,kl:=h.kl,uniq:=h.uniq,oV:=h.oV,closed:=?_,sub:=?_,nR:=?_,sr:=sr,le:=h.le.trans le,fr:=fr,qq:=(by rw[nQ];exact h.qq),qt:=?_,dP:=?_,inj:=?_,Ed:=(by rw[fH];exact h.Ed),Ee:=h.Ee }
  ·intro i oi u6 tW j hj
   rw[cD gr]at tW ⊢
   by_cases e:y.i=i
   ·subst e;rw[ho]at u6;cases u6
    obtain⟨h1,h2⟩:=hp j hj
    exact⟨h1,by split<;>simp[h2]⟩
   ·rw[if_neg e]at tW
    obtain⟨h1,h2⟩:=h.closed i oi u6 tW j hj
    exact⟨h1,by split<;>simp[h2]⟩
  ·intro i tW
   rw[cD gr]at tW
   by_cases e:y.i=i
   ·exact⟨y,hy,e⟩
   ·rw[if_neg e]at tW;exact h.sub i tW
  ·intro z hz he
   rw[cD gr]
   split
   ·rfl
   ·exact h.nR z hz he
  ·intro t ht kS
   rw[nP _ _ _ _ Ny]
   split
   ·rename_i e;exact hv t e
   ·rename_i e
    refine(h.qt t ht fun z hz hu mR=>?_).mono le
    by_cases ez:y.i=z.i
    ·rw[h.uniq y hy z hz ez]at e;exact e mR
    ·exact kS z hz (by rw[cD gr,if_neg ez];exact hu) mR
  ·intro z hz hu
   rw[cD gr]at hu
   by_cases ez:y.i=z.i
   ·rw[if_pos ez]at hu;cases hu
   ·rw[if_neg ez]at hu;exact JQ z hz hu (Ne.symm ez)
  ·intro z hz z' mO hu yY
   rw[cD gr]at hu yY
   by_cases ez:y.i=z.i
   ·rw[if_pos ez]at hu;cases hu
   ·by_cases QT:y.i=z'.i
    ·rw[if_pos QT]at yY;cases yY
    ·rw[if_neg ez]at hu;rw[if_neg QT]at yY;exact h.inj z hz z' mO hu yY
 have yZ:∀g',Fr g H g' H→∀z∈pre,L.getD z.i false=false→z.i≠y.i→oU g' H0.length R H z:=fun g' fr z hz hu _ =>
  (h.dP z hz hu).mono (fun _ _=>rfl) (fun _ _=>rfl) (fun _ _=>rfl) (fun _ _ _ _ _ _ e=>e) (fun k x _ hx CQ hn _=>fr.2 k x hx CQ hn)
 rcases h.dP y hy FI with⟨hw,hu⟩|⟨hw,d,b,py,oP,JR⟩
 ·refine⟨undef,w,g,fun K Q hk=>?_,cP undef w g (.refl _ _) h.sr (fun d e=>by rw[hu d e];exact fG) h.fr (yZ g (.refl _ _))⟩
  unfold wpOpIn
  simp only[ho,Mc,hw]
  rw[hd]at hk
  exact⟨fun _ _=>trivial,hk⟩
 ·have FK:a9 P (mu y.i) o.op=some (.b b):=by rw[←oP,JP];exact IH
  rcases JR with⟨hk,he⟩|⟨k,z,rfl,e1,e2,e3,e4⟩|⟨k,rfl,e1,e2,e3,e4⟩
  ·obtain⟨v,w',g',hs,le,sr,hv,fr⟩:=yV (r:=r) FK h.sr (kC.sub SA) he
   refine⟨v,w',g',fun K Q cd=>?_,cP v w' g' le sr (fun d' e=>by rw[py]at e;cases e;exact hv) (h.fr.trans fr) (yZ g' fr)⟩
   unfold wpOpIn
   simp only[ho,Mc,hw,if_true]
   exact hs K Q (by rw[←hd];exact cd)
  ·-- a variable QU gK place
   have FL:y.early=true:=by cases he:y.early with|true=>rfl|false=>rw[h.nR y hy he]at FI;cases FI
   have rm:=h.kl y hy FL o ho (by simp[BF,oP,py,nK])
   obtain⟨v,w',g',hs,le,sr,hv,hφ⟩:=rY (r:=r) (a:=a) rm FK h.sr e2 e3
   have Nz:gV R y=some k:=by simp[gV,py,oP,e1,jO]
   refine⟨v,w',g',fun K Q cd=>?_,cP v w' g' le sr (fun d' e=>by rw[py]at e;cases e;rw[e1];exact hv) ⟨h.fr.1,fun b x hx CQ hb=>?_⟩ fun z' mO yY ba=>?_⟩
   ·unfold wpOpIn
    simp only[ho,Mc,hw,if_true]
    exact hs K Q (by rw[←hd];exact cd)
   ·obtain⟨f1,f2⟩:=h.fr.2 b x hx CQ hb
    exact⟨f1,hφ b f2 (by have:=(List.getElem?_eq_some_iff.1 hx).1;omega)⟩
   ·exact(h.dP z' mO yY).mono (fun _ _=>rfl) (fun _ _=>rfl) (fun _ _=>rfl) (fun _ _ _ _ _ _ e=>e) fun k' x Cc hx _ hn _ =>
     ⟨hx,hφ k' hn (by rintro rfl;exact h.inj y hy z' mO FI yY (Ne.symm ba) k' Nz Cc)⟩
  ·have FL:y.early=true:=by cases he:y.early with|true=>rfl|false=>rw[h.nR y hy he]at FI;cases FI
   have rm:=h.kl y hy FL o ho (by simp[BF,oP,py,nK])
   obtain⟨v,w',g',hs,le,sr,hv,hφ⟩:=xc (r:=r) (a:=a) rm FK h.sr e2 e3
   have Nz:gV R y=some k:=by simp[gV,py,oP,e1,jO]
   refine⟨v,w',g',fun K Q cd=>?_,cP v w' g' le sr (fun d' e=>by rw[py]at e;cases e;rw[e1];exact hv) ⟨h.fr.1,fun b x hx CQ hb=>?_⟩ fun z' mO yY ba=>?_⟩
   ·unfold wpOpIn
    simp only[ho,Mc,hw,if_true]
    exact hs K Q (by rw[←hd];exact cd)
   ·obtain⟨f1,f2⟩:=h.fr.2 b x hx CQ hb
    exact⟨f1,hφ b f2 (by have:=(List.getElem?_eq_some_iff.1 hx).1;omega)⟩
   ·exact(h.dP z' mO yY).mono (fun _ _=>rfl) (fun _ _=>rfl) (fun _ _=>rfl) (fun _ _ _ _ _ _ e=>e) fun k' x Cc hx _ hn _ =>
     ⟨hx,hφ k' hn (by rintro rfl;exact h.inj y hy z' mO FI yY (Ne.symm ba) k' Nz Cc)⟩
end
structure Hd (P:Program)(n:Nat)(ops:Array Oper)(mu:Nat→Bool)(pre:List It)(x:It)(o:Oper):Prop where
 ho:ops[x.i]?=some o
 co:dJ P n ops (mu x.i) o x.o.wx=some x.o
 ts:x.ts=tmpsOf o x.o.op x.o.g
 st:x.early=false→x.o.wx=gl ((dk ops.toList []).getD x.i 0) pre
 pred:∀j∈bM o,j<x.i∧∃z∈pre,z.i=j
 SB:∀z∈pre,z.early=true∨((dk ops.toList []).getD x.i 0).testBit z.i=true
 ne:∀z∈pre,z.i≠x.i
 dst:∀d,x.o.d=some d→(∀z∈pre,z.o.d≠some d∧(d∈z.ts→x.early=false∧((dk ops.toList []).getD x.i 0).testBit z.i=true))∧d∉x.ts
 NA:∀z∈pre,∀d,z.o.d=some d→d∈x.ts→((dk ops.toList []).getD x.i 0).testBit z.i=true
 kl:x.early=true→BF x.o≠.FH∧(BF x.o=.make→tO o.op=true)
theorem xd {P:Program}{n:Nat}{ops:Array Oper}{mu:Nat→Bool}{pre:List It}{y:Nat×Bool}{x:It}(h:tP P n ops mu ((dk ops.toList []).getD y.1 0) pre y=some x):∃o,Hd P n ops mu pre x o:=by
 unfold tP at h
 generalize rh:(dk ops.toList []).getD y.1 0=bs at h
 cases ho:ops[y.1]? with
 | none=>simp[ho]at h
 | some o =>
  rw[ho]at h;dsimp only at h
  cases hc:dJ P n ops (mu y.1) o (if y.2=true then []else gl bs pre)with
  | none=>rw[hc]at h;cases h
  | some o' =>
   rw[hc]at h;dsimp only at h
   split at h
   ·rename_i hk
    cases h
    subst rh
    have cn:o'.wx=if y.2=true then []else gl ((dk ops.toList []).getD y.1 0) pre:=by
     obtain⟨op,gd,_,_,e,_⟩:=aN hc;rw[e]
    simp only[yT,Bool.and_eq_true,List.all_eq_true,decide_eq_true_eq,List.any_eq_true,beq_iff_eq,Bool.or_eq_true,bne_iff_ne,ne_eq,Bool.not_eq_true']at hk
    obtain⟨⟨⟨⟨⟨k1,k2⟩,k3⟩,k4⟩,k5⟩,k6⟩:=hk
    refine⟨o,ho,by rw[cn];exact hc,rfl,fun he=>by simp only at he;rw[cn,he];rfl,k1,k2,k3,fun d hd=>?_,fun z hz d hd ht=>?_,fun he=>?_⟩
    ·simp only at hd
     rw[hd]at k4
     simp only[List.all_eq_true,Bool.and_eq_true,bne_iff_ne,ne_eq,Bool.or_eq_true,Bool.not_eq_true',List.contains_eq_mem,decide_eq_false_iff_not,decide_eq_true_eq]at k4
     exact⟨fun z hz=>⟨(k4.1 z hz).1,fun ht=>((k4.1 z hz).2.resolve_left (fun hn=>hn ht))⟩,k4.2⟩
    ·have:=k5 z hz
     rw[hd]at this
     simp only[Bool.or_eq_true,Bool.not_eq_true',List.contains_eq_mem,decide_eq_false_iff_not]at this
     exact this.resolve_left (fun hn=>hn ht)
    ·rcases k6 with k6|k6
     ·have D7:y.2=true:=he
      rw[D7]at k6;cases k6
     ·exact⟨k6.1,fun hm=>k6.2.resolve_left (fun hn=>hn hm)⟩
   ·cases h
theorem gW {P:Program}{n:Nat}{ops:Array Oper}{mu:Nat→Bool}{pre:List It}{y:Nat×Bool}{ord:List (Nat×Bool)}{gK:List It}(h:cN P n ops mu (dk ops.toList []) pre (y :: ord)=some gK) :
  ∃x l o,gK=x :: l∧Hd P n ops mu pre x o∧cN P n ops mu (dk ops.toList []) (pre++[x]) ord=some l:=by
 simp only[cN]at h
 split at h
 ·rename_i x hx
  simp only[Option.map_eq_some_iff]at h
  obtain⟨l,h1,rfl⟩:=h
  obtain⟨o,ho⟩:=xd hx
  exact⟨x,l,o,rfl,ho,h1⟩
 ·cases h
theorem bU {P:Program}{n:Nat}{ops:Array Oper}{mu:Nat→Bool}:∀(ord:List (Nat×Bool)) (pre gK:List It),cN P n ops mu (dk ops.toList []) pre ord=some gK→∀i,i<ops.size→∃y∈pre++gK,y.i=i
 | [],pre,gK,h,i,hi=>by
  simp only[cN]at h
  split at h
  ·rename_i hk
   cases h
   simp only[List.all_eq_true,List.mem_range,List.any_eq_true,beq_iff_eq]at hk
   simpa using hk i hi
  ·cases h
 | y :: ord,pre,gK,h,i,hi=>by
  obtain⟨x,l,o,rfl,_,h2⟩:=gW h
  simpa using bU ord (pre++[x]) l h2 i hi
theorem cf {P:Program}{n:Nat}{ops:Array Oper}{mu:Nat→Bool}:∀(ord:List (Nat×Bool)) (pre gK:List It),cN P n ops mu (dk ops.toList []) pre ord=some gK→∀y∈gK,(∃o,ops[y.i]?=some o∧(∀j∈bM o,j<y.i))∧∀z∈pre,z.early=true∨((dk ops.toList []).getD y.i 0).testBit z.i=true
 | [],pre,gK,h,y,hy=>by
  simp only[cN]at h
  split at h
  ·cases h;cases hy
  ·cases h
 | u :: ord,pre,gK,h,y,hy=>by
  obtain⟨x,l,o,rfl,h1,h2⟩:=gW h
  rcases List.mem_cons.1 hy with rfl|hy
  ·exact⟨⟨o,h1.ho,fun j hj=>(h1.pred j hj).1⟩,h1.SB⟩
  ·obtain⟨h3,h4⟩:=cf ord (pre++[x]) l h2 y hy
   exact⟨h3,fun z hz=>h4 z (by simp[hz])⟩
theorem nT {b:Nat}{y:It}{d:Nat}{op:Bo}:∀(pre:List It),y∈pre→y.early=true→y.o.d=some d→y.o.op=.b op→nK op=.read→b.testBit y.i=false→⟨d,op,y.o.g⟩∈gl b pre
 | [],h,_,_,_,_,_=>by cases h
 | z :: pre,h,h1,h2,h3,h4,h5=>by
  rcases List.mem_cons.1 h with rfl|h
  ·simp[gl,h1,h2,h3,h4,h5]
  ·have ih:=nT pre h h1 h2 h3 h4 h5
   simp only[gl]
   split
   ·split
    ·exact List.mem_cons_of_mem _ ih
    ·exact ih
   ·exact ih
theorem fI {R R':aj}{y:It}(h:∀d,y.o.d=some d→R' d=R d):gV R' y=gV R y:=by
 unfold gV
 split
 ·rename_i d z h1 h2;simp only[h1,h2,h d h1]
 ·rename_i d h1 h2;simp only[h1,h2,h d h1]
 ·rfl
theorem oU.lt {g:Ctx}{N:Nat}{R:aj}{H:ae}{y:It}(h:oU g N R H y){k:Nat}(hm:gV R y=some k):k<H.length:=by
 unfold gV at hm
 rcases h with⟨_,h2⟩|⟨_,d,b,h2,h3,h4⟩
 ·split at hm
  ·rename_i d z h1 _;rw[h2 d h1]at hm;cases hm
  ·rename_i d h1 _;rw[h2 d h1]at hm;cases hm
  ·cases hm
 ·rw[h2,h3]at hm
  rcases h4 with⟨hk,he⟩|⟨k',z,rfl,e1,e2,e3,e4⟩|⟨k',rfl,e1,e2,e3,e4⟩
  ·cases b<;>simp[nK]at hk hm
  ·simp only[e1,jO,Option.some.injEq]at hm;subst hm;exact(List.getElem?_eq_some_iff.1 e2).1
  ·simp only[e1,jO,Option.some.injEq]at hm;subst hm;exact(List.getElem?_eq_some_iff.1 e2).1
section
variable {P:Program} {n:Nat} {ops:Array Oper} {mu:Nat→Bool} {w0 w w' ws:World} {df:List Deferred} {mk:T} {g g' g0:Ctx} {H H0 H':ae} {pre:List It} {L:Array Bool} {R:aj} {a:Act} {r:Option Nat} {x:It} {o:Oper}
theorem Dr.kc (h:Dr P n ops mu w0 df mk g0 ws H0 pre L g R H a w)(hd:Hd P n ops mu pre x o):L.getD x.i false=false:=by
 cases e:L.getD x.i false with
 | false=>rfl
 | true=>obtain⟨y,hy,e⟩:=h.sub x.i e;exact absurd e (hd.ne y hy)
theorem aI {α:Type}{y x:α}{l:List α}(h:y∈l++[x]):y∈l∨y=x:=by simpa using h
theorem Dr.take (h:Dr P n ops mu w0 df mk g0 ws H0 pre L g R H a w)(hd:Hd P n ops mu pre x o)(he:x.early=true){t:T}(hp:oU g H0.length (aR R x.o.d t) H' x)
  (hH:H'=H∨∃B,H'=H++[B]∧((∃cs,B=.cells cs)∨∃es,B=.map es)) (hm:∀k,gV (aR R x.o.d t) x=some k→H.length≤k):Dr P n ops mu w0 df mk g0 ws H0 (pre++[x]) L g (aR R x.o.d t) H' a w:=by
 have NB:=h.kc hd
 have jj:∀t:T,x.o.d≠some n:=fun _ e=>by
  obtain⟨op,gd,_,_,FJ,_,yX⟩:=aN hd.co
  have Md:x.o.d=o.dst:=by rw[FJ]
  exact Nat.lt_irrefl n (yX n (Md▸e))
 have tf:∀z∈pre,∀u∈z.ts,aR R x.o.d t u=R u:=fun z hz u hu=>bG fun e=>by
  obtain⟨h1,_⟩:=((hd.dst u e).1 z hz).2 hu
  rw[he]at h1;cases h1
 have y0:∀z∈pre,∀d,z.o.d=some d→aR R x.o.d t d=R d:=fun z hz d mR=>bG fun e=>((hd.dst d e).1 z hz).1 mR
 have NC:∃l,H'=H++l:=by
  rcases hH with rfl|⟨B,rfl,_⟩
  ·exact⟨[],by simp⟩
  ·exact⟨[B],rfl⟩
 obtain⟨l,hl⟩:=NC
 have SD:∀z∈pre,L.getD z.i false=false→oU g H0.length (aR R x.o.d t) H' z:=fun z hz hu=>by
  obtain⟨oz,_,_,ND⟩:=h.cmp z hz
  obtain⟨t1,t2,_⟩:=fh ND
  refine(h.dP z hz hu).mono (fun u hu=>tf z hz u (t1 u hu)) (fun u hu=>tf z hz u (t2 u hu)) (y0 z hz) (fun d b _ _ _ hk e=>?_) (fun k y _ hy _ hn _=>?_)
  ·subst hl;exact(pt hk e).2 l
  ·subst hl;exact⟨jm hy,hn⟩
 refine { tU:=h.tU,cmp:=?_,rd:=?_,dd:=?_,kl:=?_,uniq:=?_,oV:=?_,closed:=h.closed,sub:=fun i hi=>?_,nR:=?_,sr:=?_,le:=h.le,fr:=?_,qq:=h.qq,qt:=?_,dP:=?_,inj:=?_,Ed:=h.Ed,Ee:=(by rw[bG (jj t)];exact h.Ee) }
 ·intro y hy
  replace hy:=aI hy;rcases hy with hy|rfl
  ·exact h.cmp y hy
  ·exact⟨o,hd.ho,⟨_,hd.co⟩,hd.ts⟩
 ·intro y hy z hz JS d mR FM
  replace hy:=aI hy;rcases hy with hy|rfl
  ·replace hz:=aI hz;rcases hz with hz|rfl
   ·exact h.rd y hy z hz JS d mR FM
   ·obtain⟨h1,_⟩:=((hd.dst d mR).1 y hy).2 FM
    rw[he]at h1;cases h1
  ·replace hz:=aI hz;rcases hz with hz|rfl
   ·exact hd.NA z hz d mR FM
   ·exact absurd FM (hd.dst d mR).2
 ·intro y hy z hz d CR mR
  replace hy:=aI hy;rcases hy with hy|rfl
  ·replace hz:=aI hz;rcases hz with hz|rfl
   ·exact h.dd y hy z hz d CR mR
   ·exact absurd CR ((hd.dst d mR).1 y hy).1
  ·replace hz:=aI hz;rcases hz with hz|rfl
   ·exact absurd mR ((hd.dst d CR).1 z hz).1
   ·rfl
 ·intro y hy u7 o' jY
  replace hy:=aI hy;rcases hy with hy|rfl
  ·exact h.kl y hy u7 o' jY
  ·rw[hd.ho]at jY;cases jY;exact(hd.kl u7).2
 ·intro y hy z hz e
  replace hy:=aI hy;rcases hy with hy|rfl
  ·replace hz:=aI hz;rcases hz with hz|rfl
   ·exact h.uniq y hy z hz e
   ·exact absurd e (hd.ne y hy)
  ·replace hz:=aI hz;rcases hz with hz|rfl
   ·exact absurd e.symm (hd.ne z hz)
   ·rfl
 ·intro y hy o' jY j hj
  replace hy:=aI hy;rcases hy with hy|rfl
  ·exact h.oV y hy o' jY j hj
  ·rw[hd.ho]at jY;cases jY;exact(hd.pred j hj).1
 ·obtain⟨y,hy,e⟩:=h.sub i hi
  exact⟨y,by simp[hy],e⟩
 ·intro y hy u7
  replace hy:=aI hy;rcases hy with hy|rfl
  ·exact h.nR y hy u7
  ·rw[he]at u7;cases u7
 ·rcases hH with rfl|⟨B,rfl,hB⟩
  ·exact h.sr
  ·exact h.sr.Nv hB
 ·subst hl;exact h.fr.trans (Fr.ext g H l)
 ·intro u hu kS
  rw[bG (kS x (by simp) NB)]
  exact h.qt u hu fun y hy mD=>kS y (by simp[hy]) mD
 ·intro y hy mD
  replace hy:=aI hy;rcases hy with hy|rfl
  ·exact SD y hy mD
  ·exact hp
 ·intro y hy z hz mD rJ ba k hk jJ
  replace hy:=aI hy;rcases hy with hy|rfl
  ·rw[fI (y0 y hy)]at hk
   replace hz:=aI hz;rcases hz with hz|rfl
   ·rw[fI (y0 z hz)]at jJ
    exact h.inj y hy z hz mD rJ ba k hk jJ
   ·have h1:=(h.dP y hy mD).lt hk
    have h2:=hm k jJ
    omega
  ·replace hz:=aI hz;rcases hz with hz|rfl
   ·rw[fI (y0 z hz)]at jJ
    have h1:=(h.dP z hz rJ).lt jJ
    have h2:=hm k hk
    omega
   ·exact ba rfl
theorem Dr.both (h:Dr P n ops mu w0 df mk g0 ws H0 pre L g R H a w)(hd:Hd P n ops mu pre x o)(he:x.early=false)(hp:∀j∈bM o,L.getD j false=true){t:T}{v:Value}(le:Le g w g' w')(sr:SR w0 g' H' w')(hv:VR g' w' t v)(fr:Fr g H g' H')
  (hs:∀y∈pre,L.getD y.i false=false→∀d b,aS R y.o.g=true→y.o.d=some d→y.o.op=.b b→nK b=.read→ai R H b=some (R d,H)→ai R H' b=some (R d,H')) :
  Dr P n ops mu w0 df mk g0 ws H0 (pre++[x]) (L.setIfInBounds x.i true) g' (aR R x.o.d t) H' (a.put x.o.d v) w':=by
 have gr:x.i<L.size:=by rw[h.tU];exact(Array.getElem?_eq_some_iff.1 hd.ho).1
 have L3:∀j∈bM o,j<x.i∧L.getD j false=true:=fun j hj=>⟨(hd.pred j hj).1,hp j hj⟩
 obtain⟨op,gd,IH,QS,FJ,Nw,yX⟩:=aN hd.co
 have Md:x.o.d=o.dst:=by rw[FJ]
 have Ny:∀e,x.o.d=some e→e<a.tmps.size:=fun e h1=>by rw[h.qq];exact yX e (Md▸h1)
 have tf:∀z∈pre,L.getD z.i false=false→∀u∈z.ts,aR R x.o.d t u=R u:=fun z hz hu u SE=>bG fun e=>by
  obtain⟨_,h2⟩:=((hd.dst u e).1 z hz).2 SE
  rw[h.bit hd.ho L3 h2]at hu;cases hu
 have y0:∀z∈pre,∀d,z.o.d=some d→aR R x.o.d t d=R d:=fun z hz d mR=>bG fun e=>((hd.dst d e).1 z hz).1 mR
 refine { tU:=(by simp[h.tU]),cmp:=?_,rd:=?_,dd:=?_,kl:=?_,uniq:=?_,oV:=?_,closed:=?_,sub:=?_,nR:=?_,sr:=sr,le:=h.le.trans le,fr:=h.fr.trans fr,qq:=(by rw[nQ];exact h.qq),qt:=?_,dP:=?_,inj:=?_,Ed:=(by rw[fH];exact h.Ed),Ee:=(by rw[bG (fun e=>Nat.lt_irrefl n (yX n (Md▸e)))];exact h.Ee) }
 ·intro y hy
  replace hy:=aI hy;rcases hy with hy|rfl
  ·exact h.cmp y hy
  ·exact⟨o,hd.ho,⟨_,hd.co⟩,hd.ts⟩
 ·intro y hy z hz JS d mR FM
  replace hz:=aI hz;rcases hz with hz|rfl
  ·replace hy:=aI hy;rcases hy with hy|rfl
   ·exact h.rd y hy z hz JS d mR FM
   ·exact hd.NA z hz d mR FM
  ·rw[he]at JS;cases JS
 ·intro y hy z hz d CR mR
  replace hy:=aI hy;rcases hy with hy|rfl
  ·replace hz:=aI hz;rcases hz with hz|rfl
   ·exact h.dd y hy z hz d CR mR
   ·exact absurd CR ((hd.dst d mR).1 y hy).1
  ·replace hz:=aI hz;rcases hz with hz|rfl
   ·exact absurd mR ((hd.dst d CR).1 z hz).1
   ·rfl
 ·intro y hy u7 o' jY
  replace hy:=aI hy;rcases hy with hy|rfl
  ·exact h.kl y hy u7 o' jY
  ·rw[he]at u7;cases u7
 ·intro y hy z hz e
  replace hy:=aI hy;rcases hy with hy|rfl
  ·replace hz:=aI hz;rcases hz with hz|rfl
   ·exact h.uniq y hy z hz e
   ·exact absurd e (hd.ne y hy)
  ·replace hz:=aI hz;rcases hz with hz|rfl
   ·exact absurd e.symm (hd.ne z hz)
   ·rfl
 ·intro y hy o' jY j hj
  replace hy:=aI hy;rcases hy with hy|rfl
  ·exact h.oV y hy o' jY j hj
  ·rw[hd.ho]at jY;cases jY;exact(hd.pred j hj).1
 ·intro i oi u6 tW j hj
  rw[cD gr]at tW ⊢
  by_cases e:x.i=i
  ·subst e
   rw[hd.ho]at u6;cases u6
   obtain⟨h1,h2⟩:=L3 j hj
   exact⟨h1,by split<;>simp[h2]⟩
  ·rw[if_neg e]at tW
   obtain⟨h1,h2⟩:=h.closed i oi u6 tW j hj
   exact⟨h1,by split<;>simp[h2]⟩
 ·intro i tW
  rw[cD gr]at tW
  by_cases e:x.i=i
  ·exact⟨x,by simp,e⟩
  ·rw[if_neg e]at tW
   obtain⟨y,hy,e⟩:=h.sub i tW
   exact⟨y,by simp[hy],e⟩
 ·intro y hy u7
  rw[cD gr]
  split
  ·rfl
  ·rename_i ba
   replace hy:=aI hy;rcases hy with hy|rfl
   ·exact h.nR y hy u7
   ·exact absurd rfl ba
 ·intro u hu kS
  rw[nP _ _ _ _ Ny]
  split
  ·rename_i e;rw[e,fX];exact hv
  ·rename_i e
   rw[bG e]
   exact(h.qt u hu fun y hy mD=>kS y (by simp[hy]) (by rw[cD gr,if_neg (Ne.symm (hd.ne y hy))];exact mD)).mono le
 ·intro y hy mD
  rw[cD gr]at mD
  split at mD
  ·cases mD
  ·rename_i ba
   replace hy:=aI hy;rcases hy with hy|rfl
   ·obtain⟨oz,_,_,ND⟩:=h.cmp y hy
    obtain⟨t1,t2,_⟩:=fh ND
    exact(h.dP y hy mD).mono (fun u hu=>tf y hy mD u (t1 u hu)) (fun u hu=>tf y hy mD u (t2 u hu)) (y0 y hy) (hs y hy mD) (fun k z _ hz CQ hn _=>fr.2 k z hz CQ hn)
   ·exact absurd rfl ba
 ·intro y hy z hz mD rJ ba k hk jJ
  rw[cD gr]at mD rJ
  split at mD
  ·cases mD
  ·split at rJ
   ·cases rJ
   ·rename_i NF Ea
    replace hy:=aI hy;rcases hy with hy|rfl
    ·replace hz:=aI hz;rcases hz with hz|rfl
     ·rw[fI (y0 y hy)]at hk
      rw[fI (y0 z hz)]at jJ
      exact h.inj y hy z hz mD rJ ba k hk jJ
     ·exact absurd rfl Ea
    ·exact absurd rfl NF
theorem Dr.init (sr:SR w0 g H w)(hn:a.tmps.size=n)(rm:R n=mk)(hr:∀t,t<n→VR g w (R t) (a.tmps.getD t undef))(le:Le g0 ws g w)(fr:Fr g0 H0 g H):Dr P n ops mu w0 a.defers mk g0 ws H0 [] (Array.replicate ops.size false) g R H a w:=by
 have hf:∀i,(Array.replicate ops.size false).getD i false=false:=fun i=>by
  rw[Array.getD_eq_getD_getElem?,Array.getElem?_replicate];split<;>rfl
 refine { tU:=by simp,cmp:=(by simp),rd:=(by simp),dd:=(by simp),kl:=(by simp),uniq:=(by simp),oV:=(by simp),closed:=fun i o _ h=>?_,sub:=fun i h=>?_,nR:=(by simp),sr:=sr,le:=le,fr:=fr,qq:=hn,qt:=fun t ht _=>hr t ht,dP:=(by simp),inj:=(by simp),Ed:=rfl,Ee:=rm }
 ·rw[hf]at h;cases h
 ·rw[hf]at h;cases h
end
section
variable {P:Program} {w0 w:World} {g:Ctx} {H H':ae} {R:aj} {a:Act} {n:Nat} {ops:Array Oper}
def gB:Bo→Bool
 | .my _ _ _ _=>true
 | _=>false
theorem eM {b:Bo}(h:gB b=false){neg:Bool}{c:BO}{x y:X}:b≠.my neg c x y:=by rintro rfl;cases h
theorem y6 {ty:TypeId}{x:X}{b:Bo}(h:pj P ty x=some b):gB b=false:=by
 unfold pj at h;(repeat' split at h)<;>cases h<;>rfl
theorem pz {ty:TypeId}{x:X}{f:Nat}{ad:Bool}{b:Bo}(h:ka P ty x f ad=some b):gB b=false:=by
 unfold ka at h;(repeat' split at h)<;>cases h<;>rfl
theorem u9 {ty:TypeId}{x i:X}{ad:Bool}{b:Bo}(h:tK P ty x i ad=some b):gB b=false:=by
 unfold tK at h;(repeat' split at h)<;>first|(cases h<;>rfl)|(simp only[Option.map_eq_some_iff]at h;obtain⟨_,_,h⟩:=h;cases h;rfl)
theorem xe {ty:TypeId}{x:X}{lo hi mx:Option X}{b:Bo}(h:lI P ty x lo hi mx=some b):gB b=false:=by
 unfold lI at h;(repeat' split at h)<;>cases h<;>rfl
theorem CS {ty:TypeId}{x:X}{lo hi mx:Option X}{b:Bo}(h:wW P ty x lo hi mx=some b):gB b=false:=by
 unfold wW at h
 split at h
 ·simp only[Option.map_eq_some_iff]at h;obtain⟨_,_,h⟩:=h;cases h;rfl
 ·cases h
theorem y7 {src dst:TypeId}{x:X}{b:Bo}(h:pk P src dst x=some b):gB b=false:=by
 unfold pk at h;(repeat' split at h)<;>cases h<;>rfl
theorem tZ {mu:Bool}{fV:List TypeId}{as:List X}{b:Bo}(h:jk P mu fV as=some b):gB b=false:=by
 unfold jk at h;(repeat' split at h)<;>cases h<;>rfl
theorem CT {fV:List TypeId}{as:List X}{b:Bo}(h:rM P fV as=some b):gB b=false:=by
 unfold rM at h;(repeat' split at h)<;>cases h<;>rfl
theorem rZ {mu:Bool}{bt:Builtin}{fV:List TypeId}{as:List X}{b:Bo}(h:gz P mu bt fV as=some b):gB b=false:=by
 unfold gz at h
 split at h
 ·split at h
  ·rename_i b' hz;cases h;exact CT hz
  ·exact tZ h
 all_goals (repeat' split at h)<;>first|(cases h<;>rfl)|(simp only[Option.map_eq_some_iff]at h;obtain⟨_,_,h⟩:=h;cases h;rfl)
theorem xf {ty:TypeId}{ps:List (Nat×X)}{b:Bo}(h:lJ P ty ps=some b):gB b=false:=by
 unfold lJ at h;(repeat' split at h)<;>cases h<;>rfl
theorem CU {mu:Bool}{ty:TypeId}{n:Nat}{ps:List (Nat×X)}{b:Bo}(h:wX P mu ty n ps=some b):gB b=false:=by
 cases mu<;>unfold wX at h<;>(repeat' split at h)<;>cases h<;>rfl
theorem CV {mu:Bool}{ty:TypeId}{l c:X}{b:Bo}(h:wY P mu ty l c=some b):gB b=false:=by
 unfold wY at h;(repeat' split at h)<;>cases h<;>rfl
theorem ua {mu:Bool}{op:Op}{neg:Bool}{x y:X}(h:aY P mu op=some (.my neg .slice x y)) :
  ∃II ty ox oy yt e,op=.binOp II ty ox oy yt∧av ox=some x∧av oy=some y∧P.underlying ty=some (.slice e)∧II=(if neg then .neq else .eql):=by
 cases op<;>simp only[aY,Option.map_eq_some_iff,Option.bind_eq_some_iff]at h
 case binOp II ty ox oy yt =>
  cases h1:av ox with
  | none=>simp[h1]at h
  | some x'=>cases h2:av oy with
   | none=>simp[h1,h2]at h
   | some y' =>
    simp only[h1,h2]at h
    unfold yM at h
    split at h
    ·cases h
    ·cases h
    ·simp only[Option.map_eq_some_iff]at h;obtain⟨_,_,h⟩:=h;cases h
    ·split at h
     ·split at h<;>cases h
     ·cases h
    ·rename_i d _ _ _ _ hu
     split at h
     ·rename_i n' c hn jI
      cases h
      refine⟨II,ty,ox,oy,yt,?_⟩
      cases d<;>simp[cls]at jI
      exact⟨_,rfl,h1,h2,hu,by cases II<;>simp[isEq]at hn<;>subst hn<;>rfl⟩
     ·cases h
    ·cases h
 case load=>obtain⟨_,_,h⟩:=h;exact absurd rfl (eM (y6 h))
 case fieldAddr=>obtain⟨_,_,h⟩:=h;exact absurd rfl (eM (pz h))
 case field=>obtain⟨_,_,h⟩:=h;exact absurd rfl (eM (pz h))
 case indexAddr=>split at h;exact absurd rfl (eM (u9 h));cases h
 case index=>split at h;exact absurd rfl (eM (u9 h));cases h
 case slice =>
  split at h
  ·split at h
   ·exact absurd rfl (eM (CS h))
   ·exact absurd rfl (eM (xe h))
  ·cases h
 case convert=>obtain⟨_,_,h⟩:=h;exact absurd rfl (eM (y7 h))
 case build=>obtain⟨_,_,h⟩:=h;exact absurd rfl (eM (xf h))
 case buildSlice=>obtain⟨_,_,h⟩:=h;exact absurd rfl (eM (CU h))
 case makeSlice=>split at h;exact absurd rfl (eM (CV h));cases h
 case call c =>
  obtain⟨callee,args,fV⟩:=c
  cases callee
  case builtin=>simp only[aY,Option.bind_eq_some_iff]at h;obtain⟨_,_,h⟩:=h;exact absurd rfl (eM (rZ h))
  case value cv =>
   cases cv<;>simp only[aY]at h<;>(try (cases h;done))
   split at h<;>cases h
  all_goals simp[aY]at h
 case makeMap t r=>cases r<;>simp[aY]at h
 case next it str=>cases str<;>simp[aY]at h
 case range ty m=>split at h;(simp only[Option.map_eq_some_iff]at h;obtain⟨_,_,h⟩:=h;cases h);cases h
 case makeFunc f first iB =>
  cases f<;>simp only[aY]at h
  case func f =>
   split at h
   ·simp only[Option.map_eq_some_iff]at h;obtain⟨_,_,h⟩:=h;cases h
   ·cases h
  all_goals cases h
 all_goals first
  | (cases h;done)
  | (obtain⟨_,_,h⟩:=h;cases h;done)
  | ((repeat' split at h)<;>first|(cases h;done)|(simp only[Option.map_eq_some_iff]at h;obtain⟨_,_,h⟩:=h;cases h;done))
  | (simp only[Option.map_eq_some_iff]at h;obtain⟨_,_,h⟩:=h;cases h)
  | skip
theorem xg {ty e:TypeId}{ox oy:Operand}{ad:Option Addr}{l p:Nat}{neg:Bool}(hu:P.underlying ty=some (.slice e)) :
  (do eqGuard (if neg then .neq else .eql) ty ox oy (.slice ad l p) (.slice none 0 0);binOp (if neg then .neq else .eql) ty (.slice ad l p) (.slice none 0 0)).run P w=.ok (.bool (if neg then !ad.isNone else ad.isNone)) w:=by
 have k1:∀op,(eqGuard op ty ox oy (.slice ad l p) (.slice none 0 0)).run P w=.ok () w:=fun op=>rz
 have k2:(Op.equal ty (.slice ad l p) (.slice none 0 0)).run P w=.ok ad.isNone w:=eA fun n=>by
  rw[Op.equalIn];simp only[Sem.run_bind,run_underlying hu,Result.andThen_ok]
  cases ad<;>simp_all
 have k3:∀neg:Bool,(binOp (if neg then .neq else .eql) ty (.slice ad l p) (.slice none 0 0)).run P w=((Op.equal ty (.slice ad l p) (.slice none 0 0)).run P w).andThen fun b w'=>.ok (.bool (if neg then !b else b)) w':=fun neg=>by cases neg<;>simp[binOp]
 simp only[Sem.run_bind,k1,Result.andThen_ok,k3,k2]
theorem xh {r:Option Nat}{mu:Bool}{o:Oper}{neg:Bool}{x y:X}(hc:a9 P mu o.op=some (.b (.my neg .slice x y)))(hr:eE g w R a (du o.op.operands.toList))
  (hx:x.ev R=.sl .arg []) (hy:y.ev R=.sl .nil []):∃b:Bool,∀(K:Act→World→Prop) (Q:Exit→Act→World→Prop),K (a.put o.dst (.bool b)) w→o.wpIn (Fw r) 0 P a w K Q:=by
 have jj:=fp hc
 obtain⟨II,ty,ox,oy,yt,e,ho,h1,h2,hu,rfl⟩:=ua (gA hc)
 have QV:=px hr
 have v1:=QV ox (by rw[ho];simp[Op.operands]) x h1
 have v2:=QV oy (by rw[ho];simp[Op.operands]) y h2
 rw[hx]at v1
 rw[hy]at v2
 generalize h3:a.eval ox=vx at v1
 generalize h4:a.eval oy=vy at v2
 have e2:vy=.slice none 0 0:=by
  cases v2 with
  | slnil=>rfl
  | sl b6 hk=>exact hk.elim
 subst e2
 obtain⟨ad,l,p,rfl⟩:∃ad l p,vx=.slice ad l p:=by cases v1<;>exact⟨_,_,_,rfl⟩
 refine⟨if neg then !ad.isNone else ad.isNone,fun K Q hk=>⟨fun _ _=>trivial,?_⟩⟩
 rw[Oper.semAt_eq _ _ _ jj]
 have bJ:(execOp a.eval o).run P w=.ok (.value (.bool (if neg then !ad.isNone else ad.isNone))) w:=by
  have:=xg (P:=P) (w:=w) (ox:=ox) (oy:=oy) (ad:=ad) (l:=l) (p:=p) (neg:=neg) hu
  simp only[execOp,ho,h3,h4]
  rw[Sem.run_bind,this]
  rfl
 rw[bJ]
 exact hk
end
def fJ (g:Ctx)(w:World)(n:Nat)(R:aj)(a:Act):Prop:=a.tmps.size=n∧∀t,t<n→VR g w (R t) (a.tmps.getD t undef)
def oW:Exit→Option Ex
 | .normal=>some .normal
 | .exit id=>some (.exit id)
 | .ret=>some .ret
 | _=>none
def ub (w0:World)(n:Nat)(df:List Deferred)(mk:T)(g:Ctx)(w:World)(H:ae)(Q:Out→ae→Prop):Exit→Act→World→Prop:=fun e a' w' =>
 ∃ex R' g' H',oW e=some ex∧Q (.ex ex R') H'∧Le g w g' w'∧SR w0 g' H' w'∧fJ g' w' n R' a'∧Fr g H g' H'∧a'.defers=df∧R' n=mk
def pA (w0:World)(g:Ctx)(w:World)(H:ae)(Q:T→ae→Prop):Ending→World→Prop:=fun e w' =>
 ∃v t g' H',e=.returned v∧Q t H'∧Le g w g' w'∧SR w0 g' H' w'∧VR g' w' t v∧Fr g H g' H'
structure r7 (P:Program)(E:Env):Prop where
 mixed:P.follows .mixedOrders=true
 fn:∀f fn,E.fn f=some fn→∃an,aq P an f=some fn
 lA:∀f as H Q,E.lA f as H Q→∀w0 g w args,SR w0 g H w→aW g w as args→cC P f=true∧CallsIn (Fw none) 0 P f args.toArray w (pA w0 g w H Q)
inductive r8 (g:Ctx):List T→List Deferred→Prop
 | nil:r8 g [] []
 | cons {b r o q ts df} (h:g.φ b=some (r,o,q)) (hs:r8 g ts df):r8 g (.ptr b 0 :: ts) ({ target:=.collected r,args:=#[] } :: df)
theorem r8.mono {g g':Ctx}{w w':World}(le:Le g w g' w'){ts:List T}{df:List Deferred}(h:r8 g ts df):r8 g' ts df:=by
 induction h with
 | nil=>exact .nil
 | cons h _ ih=>exact .cons (le.φ _ _ h) ih
def Mk (g:Ctx)(t:T)(df:List Deferred):Prop:=∃ts,t=.bE ts∧r8 g ts df
theorem Mk.mono {g g':Ctx}{w w':World}(le:Le g w g' w'){t:T}{df:List Deferred}(h:Mk g t df):Mk g' t df:=let ⟨ts,e,h⟩:=h;⟨ts,e,h.mono le⟩
def iR (w0:World)(n:Nat)(hr:Bool)(df:List Deferred)(mk:T)(g:Ctx)(w:World)(H:ae)(Q:Out→ae→Prop):Exit→Act→World→Prop:=fun e a' w' =>
 ∃ex R' g' H',oW e=some ex∧Q (.ex ex R') H'∧Le g w g' w'∧SR w0 g' H' w'∧fJ g' w' n R' a'∧Fr g H g' H'∧(Mk g mk df→Mk g' (R' n) a'.defers)∧(hr=false→R' n=mk∧a'.defers=df)
def dU (P:Program)(g:Ctx):Prop:=∀n c k,g.ck n c k↔∃an,aV P n an false k=some c
theorem dU.mono {P:Program}{g g':Ctx}{w w':World}(le:Le g w g' w')(h:dU P g):dU P g':=fun n c k=>by rw[le.ck];exact h n c k
def nU (F:Fence)(n:Nat)(P:Program)(c:Code)(Q:Exit→Act→World→Prop)(a:Act)(w:World):Prop :=
 ∀(b:Frame) (k:List Item) (cs:List Frame),b.roundOf=F.round→F.fn b.fn→F.room (cs.length+1+n) →
  ∃e a' w',Q e a' w'∧ArrivesIn (Machine.fenced P F) P (lone (b.atR a (.code c :: .inLoop c :: k)) cs w) b k cs e a' w'
theorem r9 {F:Fence}{n:Nat}{P:Program}{c:Code}{Q:Exit→Act→World→Prop}{a:Act}{w:World}(h:c.wpIn F n P (Exit.then (nU F n P c Q) Q) a w):nU F n P c Q a w:=by
 intro b k cs Me hb hr
 obtain⟨e,a₁,w₁,hq,kL⟩:=h b (.inLoop c :: k) cs Me hb hr
 cases e with
 | normal =>
  obtain⟨e₂,a₂,w₂,SF,JT⟩:=hq b k cs Me hb hr
  exact⟨e₂,a₂,w₂,SF,.of_steps (StepsIn.trans kL (.one (fenced_calm hb hr rfl) stepR_inLoop)) JT⟩
 | exit id=>exact⟨_,a₁,w₁,hq,.pass (x:=.inLoop c) rfl (fun _ _=>.inl (by simp)) kL⟩
 | goto l=>exact⟨_,a₁,w₁,hq,.pass (x:=.inLoop c) rfl (fun _ _=>.inl (by simp)) kL⟩
 | ret=>exact⟨_,a₁,w₁,hq,.pass (x:=.inLoop c) rfl (fun _ _=>.inl (by simp)) kL⟩
 | panic ch=>exact⟨_,a₁,w₁,hq,.pass (x:=.inLoop c) rfl (fun _ _=>.inl (by simp)) kL⟩
 | outgrown=>exact⟨_,a₁,w₁,hq,.pass (x:=.inLoop c) rfl (fun _ _=>.inl (by simp)) kL⟩
theorem xi {F:Fence}{n:Nat}{P:Program}{c:Code}{Q:Exit→Act→World→Prop}{a:Act}{w:World}(h:nU F n P c Q a w):(Code.loop c).wpIn F n P Q a w :=
 fun b k cs Me hb hr=>let ⟨e,a',w',hq,kL⟩:=h b k cs Me hb hr;⟨e,a',w',hq,.of_steps (.one (fenced_calm hb hr rfl) stepR_loop) kL⟩
section
variable {P:Program} {w0 w ws:World} {g g0:Ctx} {H H0 H':ae} {R:aj} {a:Act} {n:Nat} {ops:Array Oper} {r:Option Nat} {mu:Bool} {i:Nat} {o:Oper} {st y8:List Rd}
theorem kT {y:O}(hc:dJ P n ops mu o st=some y):∀t∈tmpsOf o y.op y.g,t<n:=by
 obtain⟨op,gd,_,_,rfl,h,_⟩:=aN hc;exact h
theorem ve {d:Option Nat}{op:D1}{gd:Gd}(ho:ops[i]?=some o)(hc:dJ P n ops mu o st=some ⟨d,op,gd,y8⟩)(hn:a.tmps.size=n)(hr:eE g w R a (tmpsOf o op gd))(hw:aS R gd=false)
  {K:Act→World→Prop} {Q:Exit→Act→World→Prop} (hk:K (a.put d undef) w):wpOpIn (Fw r) 0 P ops Q i K a w:=by
 obtain⟨FN,FO,h1,h2,h3,h4,h5⟩:=aN hc
 cases h3
 unfold wpOpIn
 simp only[ho,lO h2 hn (fun t ht=>h4 t (by simp[tmpsOf,ht])) (hr.sub fun t ht=>by simp[tmpsOf,ht]),hw]
 exact⟨fun _ _=>trivial,hk⟩
theorem fq {d:Option Nat}{op:D1}{gd:Gd}(ho:ops[i]?=some o)(hc:dJ P n ops mu o st=some ⟨d,op,gd,y8⟩)(hn:a.tmps.size=n)(hr:eE g w R a (tmpsOf o op gd))(hw:aS R gd=true)
  {K:Act→World→Prop} {Q:Exit→Act→World→Prop} (hk:o.wpIn (Fw r) 0 P a w K Q):wpOpIn (Fw r) 0 P ops Q i K a w:=by
 obtain⟨FN,FO,h1,h2,h3,h4,h5⟩:=aN hc
 cases h3
 unfold wpOpIn
 simp only[ho,lO h2 hn (fun t ht=>h4 t (by simp[tmpsOf,ht])) (hr.sub fun t ht=>by simp[tmpsOf,ht]),hw,if_true]
 exact hk
theorem jo {op:D1}{gd:Gd}(hr:eE g w R a (tmpsOf o op gd)):eE g w R a (du o.op.operands.toList):=hr.sub fun t ht=>by simp[tmpsOf,ht]
theorem qu {d:Option Nat}{b:Bo}{gd:Gd}{t:T}(ho:ops[i]?=some o)(hc:dJ P n ops mu o st=some ⟨d,.b b,gd,y8⟩)(hn:a.tmps.size=n)(hr:eE g w R a (tmpsOf o (.b b) gd))(hw:aS R gd=true)
  (h:SR w0 g H w) (he:ai R H b=some (t,H')) :
  ∃v w' g',(∀(K:Act→World→Prop) (Q:Exit→Act→World→Prop),K (a.put d v) w'→wpOpIn (Fw r) 0 P ops Q i K a w)∧Le g w g' w'∧SR w0 g' H' w'∧VR g' w' t v∧Fr g H g' H':=by
 obtain⟨FN,FO,h1,h2,h3,h4,h5⟩:=aN hc
 cases h3
 obtain⟨v,w',g',hs,rest⟩:=yV (r:=r) h1 h (jo hr) he
 exact⟨v,w',g',fun K Q hk=>fq ho hc hn hr hw (hs K Q hk),rest⟩
theorem sb {d:Option Nat}{x:X}{gd:Gd}{b bi:Nat}{es:List (T×T)}{ix:List Nat}{cur:Option Nat}(ho:ops[i]?=some o)(hc:dJ P n ops mu o st=some ⟨d,.b (.oE x),gd,y8⟩)(hn:a.tmps.size=n)(hr:eE g w R a (tmpsOf o (.b (.oE x)) gd))(hw:aS R gd=true)
  (h:SR w0 g H w) (hx:x.ev R=.ptr bi 0) (hb:H[b]?=some (.da es ix bi cur)) :
  ∃t H' v w' g',kz H b bi es ix t H'∧(∀(K:Act→World→Prop) (Q:Exit→Act→World→Prop),K (a.put d v) w'→wpOpIn (Fw r) 0 P ops Q i K a w)∧Le g w g' w'∧SR w0 g' H' w'∧VR g' w' t v∧Fr g H g' H':=by
 obtain⟨FN,FO,h1,h2,h3,h4,h5⟩:=aN hc
 cases h3
 obtain⟨t,H',v,w',g',CQ,hs,rest⟩:=yW (r:=r) h1 h (jo hr) hx hb
 exact⟨t,H',v,w',g',CQ,fun K Q hk=>fq ho hc hn hr hw (hs K Q hk),rest⟩
theorem pB {d:Option Nat}{neg:Bool}{x y:X}{gd:Gd}(ho:ops[i]?=some o)(hc:dJ P n ops mu o st=some ⟨d,.b (.my neg .slice x y),gd,y8⟩)(hn:a.tmps.size=n)(hr:eE g w R a (tmpsOf o (.b (.my neg .slice x y)) gd))(hw:aS R gd=true)
  (hx:x.ev R=.sl .arg []) (hy:y.ev R=.sl .nil []):∃b:Bool,∀(K:Act→World→Prop) (Q:Exit→Act→World→Prop),K (a.put d (.bool b)) w→wpOpIn (Fw r) 0 P ops Q i K a w:=by
 obtain⟨FN,FO,h1,h2,h3,h4,h5⟩:=aN hc
 cases h3
 obtain⟨b,hs⟩:=xh (r:=r) h1 (jo hr) hx hy
 exact⟨b,fun K Q hk=>fq ho hc hn hr hw (hs K Q hk)⟩
theorem pC {d:Option Nat}{f:Nat}{as:List X}{gd:Gd}{M:T→ae→Prop}(ho:ops[i]?=some o)(hc:dJ P n ops mu o st=some ⟨d,.call f as,gd,y8⟩)(hn:a.tmps.size=n)(hr:eE g w R a (tmpsOf o (.call f as) gd))(hw:aS R gd=true)
  (ih:∀args,aW g w (as.map (X.ev R)) args→cC P f=true∧CallsIn (Fw none) 0 P f args.toArray w (pA w0 g w H M)) {K:Act→World→Prop} {Q:Exit→Act→World→Prop}
  (hk:∀v w' g' H' t,M t H'→Le g w g' w'→SR w0 g' H' w'→VR g' w' t v→Fr g H g' H'→K (a.put d v) w'):wpOpIn (Fw r) 0 P ops Q i K a w:=by
 obtain⟨FN,FO,h1,h2,h3,h4,h5⟩:=aN hc
 cases h3
 obtain⟨args,hv,hs⟩:=xb (r:=r) h1 (jo hr)
 obtain⟨k1,k2⟩:=ih args hv
 exact fq ho hc hn hr hw (hs K Q k1 (k2.mono fun e w' ⟨v,t,g',H',he,hM,le,sr,dA,fr⟩=>⟨v,he,hk v w' g' H' t hM le sr dA fr⟩))
theorem nV {d:Option Nat}{x:X}{f:Nat}{cs:List T}{as:List X}{gd:Gd}{M:T→ae→Prop}(ho:ops[i]?=some o)(hc:dJ P n ops mu o st=some ⟨d,.aX x as,gd,y8⟩)(hn:a.tmps.size=n)(hr:eE g w R a (tmpsOf o (.aX x as) gd))(hw:aS R gd=true)
  (hx:x.ev R=.fn f cs) (ih:∀args,aW g w (as.map (X.ev R)++cs) args→cC P f=true∧CallsIn (Fw none) 0 P f args.toArray w (pA w0 g w H M)) {K:Act→World→Prop} {Q:Exit→Act→World→Prop}
  (hk:∀v w' g' H' t,M t H'→Le g w g' w'→SR w0 g' H' w'→VR g' w' t v→Fr g H g' H'→K (a.put d v) w'):wpOpIn (Fw r) 0 P ops Q i K a w:=by
 obtain⟨FN,FO,h1,h2,h3,h4,h5⟩:=aN hc
 cases h3
 obtain⟨args,hv,hs⟩:=tT (r:=r) h1 (jo hr) hx
 obtain⟨k1,k2⟩:=ih args hv
 exact fq ho hc hn hr hw (hs K Q k1 (k2.mono fun e w' ⟨v,t,g',H',he,hM,le,sr,dA,fr⟩=>⟨v,he,hk v w' g' H' t hM le sr dA fr⟩))
theorem fJ.put {d:Option Nat}{v:Value}{t:T}{w':World}{g':Ctx}(h:fJ g w n R a)(hd:∀e,d=some e→e<n)(le:Le g w g' w')(hv:VR g' w' t v):fJ g' w' n (aR R d t) (a.put d v):=by
 refine⟨by rw[nQ];exact h.1,fun u hu=>?_⟩
 rw[nP _ _ _ _ (by rw[h.1];exact hd)]
 split
 ·rename_i e;rw[e,fX];exact hv
 ·rename_i e;rw[bG e];exact(h.2 u hu).mono le
theorem fJ.rg (h:fJ g w n R a){ts:List Nat}(ht:∀t∈ts,t<n):eE g w R a ts:=fun t hm=>h.2 t (ht t hm)
end
section
variable {P:Program} {n:Nat} {ops:Array Oper} {mu:Nat→Bool} {w0 ws:World} {df:List Deferred} {mk:T} {g0:Ctx} {H0:ae} {pre:List It} {r:Option Nat} {x:It} {o:Oper} {Q:Out→ae→Prop}
def left (L:Array Bool):Nat:=L.toList.count false
theorem nW {L:Array Bool}{i:Nat}(hi:i<L.size)(hf:L.getD i false=false):left (L.setIfInBounds i true)+1=left L:=by
 unfold left
 rw[Array.toList_setIfInBounds,List.count_set (by simpa using hi)]
 have hg:L.toList[i]'(by simpa using hi)=false:=by
  rw[Array.getD_eq_getD_getElem?,Array.getElem?_eq_getElem hi,Option.getD_some]at hf
  simpa using hf
 have Fz:0<L.toList.count false:=List.count_pos_iff.2 (hg▸List.getElem_mem _)
 rw[hg]
 have e1:((false==false:Bool)=true):=rfl
 have e2:¬((true==false:Bool)=true):=by decide
 rw[if_pos e1,if_neg e2]
 omega
theorem pD {L:Array Bool}(h:left L=0){i:Nat}(hi:i<L.size):L.getD i false=true:=by
 cases e:L.getD i false with
 | true=>rfl
 | false=>have:=nW hi e;omega
theorem pE {L:Array Bool}(bn:L.size=ops.size)(FF:∀i o,ops[i]?=some o→∀j∈bM o,j<i)(h:Region.ready .any ops L=[]):∀i,i<ops.size→L.getD i false=true:=by
 intro i
 induction i using Nat.strongRecOn with
 | _ i ih =>
  intro hi
  cases e:L.getD i false with
  | true=>rfl
  | false =>
   have:i∈Region.ready .any ops L:=by
    rw[mem_ready]
    refine⟨?_,ops[i],Array.getElem?_eq_getElem hi,fun ed he hb=>?_⟩
    ·have jy:i<L.size:=by omega
     rw[Array.getD_eq_getD_getElem?,Array.getElem?_eq_getElem jy]at e ⊢;exact e
    ·have hj:ed.on∈bM ops[i]:=by simp only[bM,List.mem_map,List.mem_filter];exact⟨ed,⟨by simpa using he,hb⟩,rfl⟩
     have:=FF i _ (Array.getElem?_eq_getElem hi) _ hj
     exact ih _ this (by omega)
   rw[h]at this;cases this
theorem xj {R:aj}{H:ae}(dI:∀i,i<ops.size→∃y∈pre,y.i=i)(hQ:Q (.ex .normal R) H):∀(fuel:Nat) (L:Array Bool) (g:Ctx) (a:Act) (w:World),left L≤fuel→Dr P n ops mu w0 df mk g0 ws H0 pre L g R H a w →
  wpAnyIn (Fw r) 0 P .any ops (ub w0 n df mk g0 ws H0 Q) fuel L a w:=by
 have fin:∀(L:Array Bool) (g:Ctx) (a:Act) (w:World),Dr P n ops mu w0 df mk g0 ws H0 pre L g R H a w→(∀i,i<ops.size→L.getD i false=true)→ub w0 n df mk g0 ws H0 Q .normal a w:=by
  intro L g a w h hl
  refine⟨.normal,R,g,H,rfl,hQ,h.le,h.sr,⟨h.qq,fun t ht=>h.qt t ht fun y hy hu=>?_⟩,h.fr,h.Ed,h.Ee⟩
  obtain⟨o,ho,_⟩:=h.cmp y hy
  rw[hl y.i (Array.getElem?_eq_some_iff.1 ho).1]at hu;cases hu
 have FF:∀(L:Array Bool) (g:Ctx) (a:Act) (w:World),Dr P n ops mu w0 df mk g0 ws H0 pre L g R H a w→∀i o,ops[i]?=some o→∀j∈bM o,j<i:=by
  intro L g a w h i o ho
  obtain⟨y,hy,rfl⟩:=dI i (Array.getElem?_eq_some_iff.1 ho).1
  exact h.oV y hy o ho
 intro fuel
 induction fuel with
 | zero =>
  intro L g a w hL h
  have hl:∀i,i<ops.size→L.getD i false=true:=fun i hi=>pD (by omega) (by rw[h.tU];exact hi)
  refine⟨?_,fin L g a w h hl⟩
  refine List.eq_nil_iff_forall_not_mem.2 fun i hi=>?_
  obtain⟨h1,o,h2,_⟩:=jn hi
  rw[hl i (Array.getElem?_eq_some_iff.1 h2).1]at h1;cases h1
 | succ fuel ih =>
  intro L g a w hL h
  refine⟨fun hr=>fin L g a w h (pE h.tU (FF L g a w h) hr),fun i hi=>?_⟩
  obtain⟨h1,o,h2,_⟩:=jn hi
  have au:=(Array.getElem?_eq_some_iff.1 h2).1
  obtain⟨y,hy,rfl⟩:=dI i au
  obtain⟨v,w',g',hs,hd⟩:=h.late (r:=r) hy hi
  have:=nW (by rw[h.tU];exact au) h1
  exact hs _ _ (ih _ _ _ _ (by omega) hd)
theorem cU {R:aj}{H:ae}{Tl:aj→ae→Prop}{Qx:Exit→Act→World→Prop}{l:List It}(hd:Hd P n ops mu pre x o)(hx:x.early=false)(dI:∀i,i<ops.size→∃y∈pre++x :: l,y.i=i)
  (JU:∀y∈l,(∃o,ops[y.i]?=some o∧(∀j∈bM o,j<y.i))∧∀z∈pre++[x],z.early=true∨((dk ops.toList []).getD y.i 0).testBit z.i=true)
  (hT:∀R' H',Tl R' H'→∀fuel L' g' a' w',left L'≤fuel→Dr P n ops mu w0 df mk g0 ws H0 (pre++[x]) L' g' R' H' a' w'→wpAnyIn (Fw r) 0 P .any ops Qx fuel L' a' w')
  (hX:∀L g a w,Dr P n ops mu w0 df mk g0 ws H0 pre L g R H a w→(∀j∈bM o,L.getD j false=true)→∀K:Act→World→Prop,
   (∀R' H' g' a' w',Tl R' H'→Dr P n ops mu w0 df mk g0 ws H0 (pre++[x]) (L.setIfInBounds x.i true) g' R' H' a' w'→K a' w')→wpOpIn (Fw r) 0 P ops Qx x.i K a w) :
  ∀(fuel:Nat) (L:Array Bool) (g:Ctx) (a:Act) (w:World),left L≤fuel→Dr P n ops mu w0 df mk g0 ws H0 pre L g R H a w→wpAnyIn (Fw r) 0 P .any ops Qx fuel L a w:=by
 have BC:x.i<ops.size:=(Array.getElem?_eq_some_iff.1 hd.ho).1
 intro fuel
 induction fuel with
 | zero =>
  intro L g a w hL h
  have h1:=h.kc hd
  rw[pD (by omega) (by rw[h.tU];exact BC)]at h1;cases h1
 | succ fuel ih =>
  intro L g a w hL h
  have Fe:=h.kc hd
  refine⟨fun hr=>?_,fun i hi=>?_⟩
  ·have hl:=pE h.tU (fun i o' jY j hj=>?_) hr x.i BC
   ·rw[hl]at Fe;cases Fe
   ·obtain⟨y,hy,rfl⟩:=dI i (Array.getElem?_eq_some_iff.1 jY).1
    rcases List.mem_append.1 hy with hy|hy
    ·exact h.oV y hy o' jY j hj
    ·rcases List.mem_cons.1 hy with rfl|hy
     ·rw[hd.ho]at jY;cases jY;exact(hd.pred j hj).1
     ·obtain⟨⟨o2,h2,h3⟩,_⟩:=JU y hy
      rw[h2]at jY;cases jY;exact h3 j hj
  ·obtain⟨h1,o',h2,h3⟩:=jn hi
   have au:=(Array.getElem?_eq_some_iff.1 h2).1
   have SG:=nW (by rw[h.tU];exact au) h1
   obtain⟨y,hy,rfl⟩:=dI i au
   rcases List.mem_append.1 hy with hy|hy
   ·obtain⟨v,w',g',hs,NG⟩:=h.late (r:=r) hy hi
    exact hs _ _ (ih _ _ _ _ (by omega) NG)
   ·rcases List.mem_cons.1 hy with rfl|hy
    ·rw[hd.ho]at h2;cases h2
     exact hX L g a w h h3 _ fun R' H' g' a' w' ht NG=>hT R' H' ht fuel _ g' a' w' (by omega) NG
    ·obtain⟨⟨o2,h4,h5⟩,h6⟩:=JU y hy
     rw[h2]at h4;cases h4
     rcases h6 x (by simp)with h7|h7
     ·rw[hx]at h7;cases h7
     ·have:=h.bit h2 (fun j hj=>⟨h5 j hj,h3 j hj⟩) h7
      rw[Fe]at this;cases this
end
def NH (P : Program) : J → ae → (Out → ae → Prop) → Prop
  | .code c R, H, Q => ∀(w0 : World) (g : Ctx) (w : World) (a : Act) (n : Nat) (an : An) (top : Bool) (code : Code) (r : Option Nat), aV P n an top code = some c → (top = true → r = none) → dU P g → SR w0 g H w → fJ g w n R a →
      code.wpIn (Fw r) 0 P (iR w0 n c.jx a.defers (R n) g w H Q) a w ∧ ∀body, code = .loop body → nU (Fw r) 0 P body (iR w0 n c.jx a.defers (R n) g w H Q) a w
  | .ops l R, H, Q => (∀(w0 : World) (g0 : Ctx) (ws : World) (H0 : ae) (g : Ctx) (w : World) (a : Act) (n : Nat) (ops : Array Oper) (mu : Nat → Bool) (is : List Nat) (r : Option Nat), er P n ops mu is = some l → dU P g → SR w0 g H w → fJ g w n R a →
        Le g0 ws g w → Fr g0 H0 g H → wpOpsIn (Fw r) 0 P ops (ub w0 n a.defers (R n) g0 ws H0 Q) is a w) ∧
      (∀(w0 : World) (n : Nat) (ops : Array Oper) (mu : Nat → Bool) (df : List Deferred) (mk : T) (g0 : Ctx) (ws : World) (H0 : ae) (pre : List It) (L : Array Bool) (g : Ctx) (a : Act) (w : World) (ord : List (Nat×Bool)) (gK : List It) (r : Option Nat) (fuel : Nat),
        dU P g → cN P n ops mu (dk ops.toList []) pre ord = some gK → gK.map (·.o) = l → Dr P n ops mu w0 df mk g0 ws H0 pre L g R H a w → left L ≤ fuel → wpAnyIn (Fw r) 0 P .any ops (ub w0 n df mk g0 ws H0 Q) fuel L a w)
  | .call f as, H, Q => ∀(w0 : World) (g : Ctx) (w : World) (args : List Value), dU P g → SR w0 g H w → aW g w as args → cC P f = true ∧ CallsIn (Fw none) 0 P f args.toArray w (pA w0 g w H fun v H' => Q (.val v) H')
theorem iR.trans {w0 w w':World}{n:Nat}{hr kj:Bool}{df NI:List Deferred}{mk mk':T}{g g':Ctx}{H H':ae}{Q:Out→ae→Prop}(le:Le g w g' w')(fr:Fr g H g' H')(hm:Mk g mk df→Mk g' mk' NI)(hh:hr=false→kj=false∧mk'=mk∧NI=df)
  {e:Exit} {a:Act} {u:World} (h:iR w0 n kj NI mk' g' w' H' Q e a u):iR w0 n hr df mk g w H Q e a u:=by
 obtain⟨ex,R',g2,H2,h1,h2,h3,h4,h5,h6,h7,h8⟩:=h
 refine⟨ex,R',g2,H2,h1,h2,le.trans h3,h4,h5,fr.trans h6,fun m=>h7 (hm m),fun e=>?_⟩
 obtain⟨k1,k2,k3⟩:=hh e
 obtain⟨k4,k5⟩:=h8 k1
 exact⟨k4.trans k2,k5.trans k3⟩
theorem ub.QW {w0 w:World}{n:Nat}{hr:Bool}{df:List Deferred}{mk:T}{g:Ctx}{H:ae}{Q:Out→ae→Prop}{e:Exit}{a:Act}{u:World}(h:ub w0 n df mk g w H Q e a u):iR w0 n hr df mk g w H Q e a u:=by
 obtain⟨ex,R',g2,H2,h1,h2,h3,h4,h5,h6,h7,h8⟩:=h
 exact⟨ex,R',g2,H2,h1,h2,h3,h4,h5,h6,fun m=>by rw[h7,h8];exact m.mono h3,fun _=>⟨h8,h7⟩⟩
section
variable {P:Program} {n:Nat} {an:An} {top:Bool} {code:Code}
theorem y9 (h:aV P n an top code=some .skip):code=.skip:=by
 cases code<;>(try simp only[aV]at h)
 case region id ops draw=>cases draw<;>simp only[aV]at h<;>(repeat' split at h)<;>simp at h
 all_goals first|rfl|(cases h;done)|((repeat' split at h)<;>simp at h;done)|(simp at h;done)
theorem za {id:Nat}(h:aV P n an top code=some (.exit id)):code=.exit id:=by
 cases code<;>(try simp only[aV]at h)
 case region id ops draw=>cases draw<;>simp only[aV]at h<;>(repeat' split at h)<;>simp at h
 all_goals first|(cases h;rfl)|(cases h;done)|((repeat' split at h)<;>simp at h;done)|(simp at h;done)
theorem CW (h:aV P n an top code=some .ret):code=.ret:=by
 cases code<;>(try simp only[aV]at h)
 case region id ops draw=>cases draw<;>simp only[aV]at h<;>(repeat' split at h)<;>simp at h
 all_goals first|rfl|(cases h;done)|((repeat' split at h)<;>simp at h;done)|(simp at h;done)
theorem CX {x y:C}(h:aV P n an top code=some (.seq x y)):∃c d,code=.seq c d∧aV P n an top c=some x∧aV P n an top d=some y:=by
 cases code<;>(try simp only[aV]at h)
 case region id ops draw=>cases draw<;>simp only[aV]at h<;>(repeat' split at h)<;>simp at h
 case seq c d =>
  split at h
  ·rename_i h1 h2;cases h;exact⟨c,d,rfl,h1,h2⟩
  ·cases h
 all_goals first|(cases h;done)|((repeat' split at h)<;>simp at h;done)|(simp at h;done)
theorem zb {c:X}{x y:C}(h:aV P n an top code=some (.cond c x y)):∃o d e,code=.cond o d e∧av o=some c∧aV P n an top d=some x∧aV P n an top e=some y∧∀t,o=.tmp t→t<n:=by
 cases code<;>(try simp only[aV]at h)
 case region id ops draw=>cases draw<;>simp only[aV]at h<;>(repeat' split at h)<;>simp at h
 case cond o d e =>
  split at h
  ·rename_i h1 h2 h3
   cases o with
   | tmp t =>
    simp only[decide_eq_true_eq]at h
    split at h
    ·rename_i h4;cases h;exact⟨_,d,e,rfl,h1,h2,h3,fun t' ht=>by cases ht;exact h4⟩
    ·cases h
   | _=>simp at h;obtain⟨rfl,rfl,rfl⟩:=h;exact⟨_,d,e,rfl,h1,h2,h3,fun t ht=>by cases ht⟩
  ·cases h
 all_goals first|(cases h;done)|((repeat' split at h)<;>simp at h;done)|(simp at h;done)
theorem xk {id:Nat}{x:C}(h:aV P n an top code=some (.block id x)):∃c,code=.block id c∧aV P n an top c=some x:=by
 cases code<;>(try simp only[aV]at h)
 case region id ops draw=>cases draw<;>simp only[aV]at h<;>(repeat' split at h)<;>simp at h
 case block SI c =>
  simp only[Option.map_eq_some_iff]at h
  obtain⟨x',h1,h2⟩:=h
  cases h2;exact⟨c,rfl,h1⟩
 all_goals first|(cases h;done)|((repeat' split at h)<;>simp at h;done)|(simp at h;done)
theorem zd {x:C}(h:aV P n an top code=some (.loop x)):∃c,code=.loop c∧aV P n an top c=some x:=by
 cases code<;>(try simp only[aV]at h)
 case region id ops draw=>cases draw<;>simp only[aV]at h<;>(repeat' split at h)<;>simp at h
 case loop c =>
  simp only[Option.map_eq_some_iff]at h
  obtain⟨x',h1,h2⟩:=h
  cases h2;exact⟨c,rfl,h1⟩
 all_goals first|(cases h;done)|((repeat' split at h)<;>simp at h;done)|(simp at h;done)
theorem xl {m:Nat}{x:X}{ps:List Nat}{y z:C}(h:aV P n an top code=some (.cj m x ps y z)):∃g qs c d,code=.rangeFunc g qs c d∧av g=some x∧aV P n an false c=some y∧aV P n an false d=some z∧top=true∧(∀t∈ct x,t<n)∧qs.toList=ps∧(∀p∈ps,p<n)∧m=n:=by
 cases code<;>(try simp only[aV]at h)
 case region id ops draw=>cases draw<;>simp only[aV]at h<;>(repeat' split at h)<;>simp at h
 case rangeFunc g qs c d =>
  split at h
  ·rename_i h1 h2 h3
   split at h
   ·rename_i h4
    cases h
    simp only[Bool.and_eq_true,List.all_eq_true,decide_eq_true_eq]at h4
    exact⟨g,qs,c,d,rfl,h1,h2,h3,h4.1.1,h4.1.2,rfl,h4.2,rfl⟩
   ·cases h
  ·cases h
 all_goals first|(cases h;done)|((repeat' split at h)<;>simp at h;done)|(simp at h;done)
theorem CY {l:List O}(h:aV P n an top code=some (.ops l)):∃id ops mu,(code=.region id ops false∧er P n ops mu (List.range ops.size)=some l) ∨
  (code=.region id ops true∧∃ord gK,cN P n ops mu (dk ops.toList []) [] ord=some gK∧gK.map (·.o)=l):=by
 cases code<;>(try simp only[aV]at h)
 case region id ops draw =>
  cases draw<;>simp only[aV]at h
  ·simp only[Option.map_eq_some_iff]at h
   obtain⟨l',h1,h2⟩:=h
   cases h2;exact⟨id,ops,_,.inl ⟨rfl,h1⟩⟩
  ·split at h
   ·rename_i ord _
    simp only[Option.map_eq_some_iff]at h
    obtain⟨gK,h1,h2⟩:=h
    cases h2;exact⟨id,ops,_,.inr ⟨rfl,ord,gK,h1,rfl⟩⟩
   ·cases h
 all_goals first|(cases h;done)|((repeat' split at h)<;>simp at h;done)|(simp at h;done)
end
theorem cg {P:Program}{n:Nat}{ops:Array Oper}{mu:Nat→Bool}{is:List Nat}{o:O}{l:List O}(h:er P n ops mu is=some (o :: l)) :
  ∃i oJ oper,is=i :: oJ∧ops[i]?=some oper∧dJ P n ops (mu i) oper []=some o∧er P n ops mu oJ=some l:=by
 cases is with
 | nil=>simp[er]at h
 | cons i oJ =>
  simp only[er]at h
  split at h
  ·rename_i oper ho
   split at h
   ·rename_i h1 h2;cases h;exact⟨i,oJ,oper,rfl,ho,h1,h2⟩
   ·cases h
  ·cases h
theorem sd {P:Program}{n:Nat}{ops:Array Oper}{mu:Nat→Bool}{is:List Nat}(h:er P n ops mu is=some []):is=[]:=by
 cases is with
 | nil=>rfl
 | cons i oJ =>
  simp only[er]at h
  split at h
  ·split at h<;>simp at h
  ·cases h
theorem eF {P:Program}{n:Nat}{ops:Array Oper}{mu:Nat→Bool}{pre:List It}{ord:List (Nat×Bool)}{gK:List It}{o:O}{l:List O}(h:cN P n ops mu (dk ops.toList []) pre ord=some gK)(hm:gK.map (·.o)=o :: l) :
  ∃x l' dB oper,gK=x :: l'∧x.o=o∧l'.map (·.o)=l∧Hd P n ops mu pre x oper∧cN P n ops mu (dk ops.toList []) (pre++[x]) dB=some l':=by
 cases ord with
 | nil =>
  simp only[cN]at h
  split at h
  ·cases h;simp at hm
  ·cases h
 | cons y dB =>
  obtain⟨x,l',oper,rfl,h1,h2⟩:=gW h
  simp only[List.map_cons,List.cons.injEq]at hm
  exact⟨x,l',dB,oper,rfl,hm.1,hm.2,h1,h2⟩
section
variable {P:Program} {n:Nat} {ops:Array Oper} {mu:Nat→Bool} {w0 w ws:World} {df:List Deferred} {mk:T} {g g0:Ctx} {H H0 H':ae} {pre:List It} {L:Array Bool} {R:aj} {a:Act} {r:Option Nat} {x:It} {o:Oper}
theorem Hd.sub (hd:Hd P n ops mu pre x o)(v:T):(∀t∈jM x.o.g,aR R x.o.d v t=R t)∧∀t∈rQ x.o.op,aR R x.o.d v t=R t:=by
 obtain⟨t1,t2,_⟩:=fh hd.ts
 exact⟨fun t ht=>bG fun e=>(hd.dst t e).2 (t1 t ht),fun t ht=>bG fun e=>(hd.dst t e).2 (t2 t ht)⟩
theorem Dr.CZ (h:Dr P n ops mu w0 df mk g0 ws H0 pre L g R H a w)(hd:Hd P n ops mu pre x o)(he:x.early=true)(hw:aS R x.o.g=false):Dr P n ops mu w0 df mk g0 ws H0 (pre++[x]) L g (aR R x.o.d bq) H a w:=by
 refine h.take hd he (.inl ⟨?_,fun d e=>by rw[e,fX]⟩) (.inl rfl) fun k hk=>?_
 ·rw[iQ (R':=R) (hd.sub bq).1];exact hw
 ·unfold gV at hk
  split at hk
  ·rename_i e _;rw[e,fX]at hk;cases hk
  ·rename_i e _;rw[e,fX]at hk;cases hk
  ·cases hk
theorem Dr.C1 {b:Bo}{v:T}(h:Dr P n ops mu w0 df mk g0 ws H0 pre L g R H a w)(hd:Hd P n ops mu pre x o)(he:x.early=true)(hb:x.o.op=.b b)(hw:aS R x.o.g=true)(hv:ai R H b=some (v,H')) :
  Dr P n ops mu w0 df mk g0 ws H0 (pre++[x]) L g (aR R x.o.d v) H' a w:=by
 obtain⟨k1,k2⟩:=hd.kl he
 cases C2:x.o.d with
 | none=>exact absurd (by simp[BF,hb,C2]) k1
 | some d =>
  have QX:BF x.o=nK b:=by simp[BF,hb,C2]
  rw[QX]at k1 k2
  have tH:aS (aR R x.o.d v) x.o.g=true:=by rw[iQ (R':=R) (hd.sub v).1];exact hw
  have SJ:∀H2,ai (aR R x.o.d v) H2 b=ai R H2 b:=fun H2=>nO fun t ht=>(hd.sub v).2 t (by rw[hb];exact ht)
  have FP:aR R x.o.d v d=v:=by rw[C2,fX]
  rw[←C2]
  have hq:(nK b=.pure∨nK b=.read)→H'=H→Dr P n ops mu w0 df mk g0 ws H0 (pre++[x]) L g (aR R x.o.d v) H' a w:=by
   rintro hk rfl
   refine h.take hd he (.inr ⟨tH,d,b,C2,hb,.inl ⟨hk,by rw[SJ,FP];exact hv⟩⟩) (.inl rfl) fun k hm=>?_
   unfold gV at hm
   rw[hb]at hm
   split at hm
   ·rename_i h1;cases h1;simp[nK]at hk
   ·rename_i h1;cases h1;simp[nK]at hk
   ·cases hm
  cases hk:nK b with
  | FH=>exact absurd hk k1
  | pure=>exact hq (.inl hk) (pr hk hv).1
  | read=>exact hq (.inr hk) (pt hk hv).1
  | make =>
   have QY:H0.length≤H.length:=h.fr.1
   cases b<;>simp only[nK]at hk<;>(try (cases hk;done))
   case my=>split at hk<;>cases hk
   case alloc z =>
    simp only[ai,Option.some.injEq,Prod.mk.injEq]at hv
    obtain⟨rfl,rfl⟩:=hv
    refine h.take hd he (.inr ⟨tH,d,_,C2,hb,.inr (.inl ⟨H.length,z,rfl,FP,dg _ _,h.sr.Ce (Nat.le_refl _),QY⟩)⟩) (.inr ⟨_,rfl,.inl ⟨_,rfl⟩⟩) fun k hm=>?_
    simp only[gV,C2,hb,fX,jO,Option.some.injEq]at hm
    omega
   case wq =>
    simp only[ai,Option.some.injEq,Prod.mk.injEq]at hv
    obtain⟨rfl,rfl⟩:=hv
    refine h.take hd he (.inr ⟨tH,d,_,C2,hb,.inr (.inr ⟨H.length,rfl,FP,dg _ _,h.sr.Ce (Nat.le_refl _),QY⟩)⟩) (.inr ⟨_,rfl,.inr ⟨_,rfl⟩⟩) fun k hm=>?_
    simp only[gV,C2,hb,fX,jO,Option.some.injEq]at hm
    omega
theorem Dr.cV (h:Dr P n ops mu w0 df mk g0 ws H0 pre L g R H a w)(hd:Hd P n ops mu pre x o)(hp:∀j∈bM o,L.getD j false=true):eE g w R a (tmpsOf o x.o.op x.o.g) :=
 h.look hd.ho (fun j hj=>⟨(hd.pred j hj).1,hp j hj⟩) (kT hd.co) fun z hz _ d mR ht=>hd.NA z hz d mR (by rw[hd.ts];exact ht)
theorem Dr.stays (h:Dr P n ops mu w0 df mk g0 ws H0 pre L g R H a w)(hd:Hd P n ops mu pre x o)(he:x.early=false)(hp:∀j∈bM o,L.getD j false=true)(hs:gb R H' x.o.wx) :
  ∀y∈pre,L.getD y.i false=false→∀d b,aS R y.o.g=true→y.o.d=some d→y.o.op=.b b→nK b=.read→ai R H b=some (R d,H)→ai R H' b=some (R d,H'):=by
 intro y hy hu d b hw CR SL hk _
 have u7:y.early=true:=by cases e:y.early with|true=>rfl|false=>rw[h.nR y hy e]at hu;cases hu
 have NJ:((dk ops.toList []).getD x.i 0).testBit y.i=false:=by
  cases e:((dk ops.toList []).getD x.i 0).testBit y.i with
  | false=>rfl
  | true=>rw[h.bit hd.ho (fun j hj=>⟨(hd.pred j hj).1,hp j hj⟩) e]at hu;cases hu
 have hm:=nT pre hy u7 CR SL hk NJ
 rw[←hd.st he]at hm
 exact hs _ hm hw
end
theorem sf {g:Ctx}{w:World}{n:Nat}:∀(ps:List Nat) (vs:List T) (us:List Value) (R:aj) (tmps:Array Value),aW g w vs us→vs.length=ps.length→tmps.size=n→(∀t,t<n→VR g w (R t) (tmps.getD t undef))→(∀p∈ps,p<n) →
  ((ps.zip us).foldl (fun tmps (t,a)=>tmps.setIfInBounds t a) tmps).size=n∧∀t,t<n→VR g w (iC R ps vs t) (((ps.zip us).foldl (fun tmps (t,a)=>tmps.setIfInBounds t a) tmps).getD t undef)
 | [],vs,us,R,tmps,hv,hl,hn,hr,_=>by
  cases vs with
  | nil=>exact⟨by simpa using hn,by simpa[iC]using hr⟩
  | cons _ _=>simp at hl
 | p :: ps,[],us,R,tmps,hv,hl,hn,hr,_=>by simp at hl
 | p :: ps,v :: vs,[],R,tmps,hv,hl,hn,hr,_=>by have:=hv.1;simp at this
 | p :: ps,v :: vs,u :: us,R,tmps,hv,hl,hn,hr,hp=>by
  simp only[List.zip_cons_cons,List.foldl_cons,iC]
  refine sf ps vs us (iq R p v) (tmps.setIfInBounds p u) hv.tail (by simpa using hl) (by simpa using hn) (fun t ht=>?_) (fun q hq=>hp q (by simp[hq]))
  have uZ:p<tmps.size:=by rw[hn];exact hp p (by simp)
  by_cases e:p=t
  ·subst e;simp only[iq,if_true];rw[Array.getD_eq_getD_getElem?];simp[uZ];exact hv.head
  ·simp only[iq];rw[if_neg (Ne.symm e),Array.getD_eq_getD_getElem?,Array.getElem?_setIfInBounds_ne e,←Array.getD_eq_getD_getElem?];exact hr t ht
section
variable {P:Program} {w0 w ws:World} {g g0:Ctx} {H H0 H':ae} {R:aj} {a:Act} {n:Nat} {ops:Array Oper} {r:Option Nat} {mu:Bool} {i:Nat} {o:Oper} {st y8:List Rd}
theorem ze {e:Ex}(h:e≠.normal):(∃id,e=.exit id∧ry (some e)=some (.exit id))∨(e=.ret∧ry (some e)=some .ret):=by
 cases e with
 | normal=>exact absurd rfl h
 | exit id=>exact .inl ⟨id,rfl,rfl⟩
 | ret=>exact .inr ⟨rfl,rfl⟩
theorem sg {d:Option Nat}{x:X}{as:List X}{gd:Gd}{b m:Nat}{R0:aj}{ps:List Nat}{bV body:C}{M1 M:Out→ae→Prop}(ho:ops[i]?=some o)(hc:dJ P n ops mu o st=some ⟨d,.aX x as,gd,y8⟩)(hn:a.tmps.size=n)(hr:eE g w R a (tmpsOf o (.aX x as) gd))(hw:aS R gd=true)
  (hx:x.ev R=.lz b) (hb:H[b]?=some (.loop .ready none m R0 ps bV body)) (hlen:as.length=ps.length) (ck:dU P g) (sr:SR w0 g H w)
  (rn:NH P (.code bV (iC R0 ps (as.map (X.ev R)))) H M1) (xU:∀o H',M1 o H'→(∃R1,o=.ex .normal R1)∧H'[b]?=some (.loop .ready none m R0 ps bV body))
  (ko:∀R1 H1,M1 (.ex .normal R1) H1→NH P (.code body R1) (H1.set b (.loop .busy none m R0 ps bV body)) M) (xV:∀o H',M o H'→H'[b]?=some (.loop .busy none m R0 ps bV body))
  {K:Act→World→Prop} {Q:Exit→Act→World→Prop}
  (hk:∀v w' g' H' t,((∃R' H2,M (.ex .normal R') H2∧t=.bool true∧H'=H2.set b (.loop .ready none m R0 ps bV body))∨(∃e R' H2,M (.ex e R') H2∧e≠.normal∧t=.bool false∧H'=H2.set b (.loop .done (some e) m R0 ps bV body))) →
   Le g w g' w'→SR w0 g' H' w'→VR g' w' t v→Fr g H g' H'→K (a.put d v) w'):wpOpIn (Fw r) 0 P ops Q i K a w:=by
 obtain⟨FN,FO,h1,h2,h3,h4,h5⟩:=aN hc
 cases h3
 refine fq ho hc hn hr hw ⟨fun _ _=>trivial,?_⟩
 have jj:=fp h1
 obtain⟨t,args,fV,rfl,IH,h6⟩:=jN h1
 have mj:=jo hr
 have hv:=dY (ρ:=a.eval) args.toList as h6 (px (mj.sub fun t ht=>by
  simp only[du,List.mem_filterMap]at ht ⊢
  obtain⟨x,hx,e⟩:=ht
  exact⟨x,by rw[IH];simp only[Op.operands,Call.operands];simp at hx;simp[hx],e⟩))
 have hf:=mj t (by rw[IH];simp only[du,List.mem_filterMap];exact⟨.tmp t,by simp[Op.operands,Call.operands],rfl⟩)
 simp only[X.ev]at hx
 rw[hx]at hf
 generalize w8:a.tmps.getD t undef=vf at hf
 cases hf with
 | @lz _ l o' q' hφ =>
  obtain⟨k1,rec,k2,k3,k4,k5,k6,k7,k8,k9,SM⟩:=sr.cu b _ hb l o' q' hφ
  rw[Oper.semAt_eq _ _ _ jj]
  have bn:(args.toList.map a.eval).toArray.size=rec.params.size:=by
   have:=hv.1;simp at this
   have e2:rec.params.size=ps.length:=by rw[←k5];simp
   simp[e2,←hlen,this]
  have bJ:(execOp a.eval o).run P w=.ok (.round l rec.fn ((rec.params.zip (args.toList.map a.eval).toArray).foldl (fun tmps (t,a)=>tmps.setIfInBounds t a) rec.tmps) rec.assign rec.body) w:=by
   have hy:=run_yield (P:=P) (args:=(args.toList.map a.eval).toArray) k2 bn
   have e2:(args.toList.map a.eval).toArray=args.map a.eval:=by rw[←Array.toList_map]
   rw[e2]at hy ⊢
   have e:a.eval (.tmp t)=.func (.yield l) #[] #[]:=w8
   simp only[execOp,IH,resolve,e,Deferred.ofValue,invoke]
   simpa using hy
  rw[bJ,Oper.uponIn_round]
  refine⟨fun h=>by simp[Fw]at h,roundIn_of_wpIn trivial ?_⟩
  have tf:(rec.params.zip (args.toList.map a.eval).toArray).foldl (fun tmps (t,a)=>tmps.setIfInBounds t a) rec.tmps=(ps.zip (args.toList.map a.eval)).foldl (fun tmps (t,a)=>tmps.setIfInBounds t a) rec.tmps:=by
   rw[←Array.foldl_toList,Array.toList_zip,k5]
  rw[tf]
  have nI:=sf ps (as.map (X.ev R)) (args.toList.map a.eval) R0 rec.tmps hv (by simpa using hlen) k6 k7 k8
  obtain⟨SN,kK⟩:=(ck _ _ _).1 k9
  obtain⟨SO,oS⟩:=(ck _ _ _).1 SM
  refine wpIn_mono (rn w0 g w { tmps:=(ps.zip (args.toList.map a.eval)).foldl (fun tmps (t,a)=>tmps.setIfInBounds t a) rec.tmps,defers:=[] } m SN false rec.assign (some l) kK (by simp) ck sr nI).1 fun e a1 w1 hp=>?_
  obtain⟨ex,R1,g1,H1,e1,hm,fO,FC,IJ,NK,-,-⟩:=hp
  obtain⟨⟨VD,SP⟩,oP⟩:=xU _ _ hm
  cases SP
  cases e<;>simp only[oW,Option.some.injEq,reduceCtorEq]at e1
  have IK:=fO.φ _ _ hφ
  obtain⟨j1,NL,j2,j3,j4,j5,j6,j7,j8,j9,QZ⟩:=FC.cu b _ oP l o' q' IK
  refine⟨_,run_beginRound j2 j3,?_⟩
  obtain⟨C3,Ef,vg⟩:=FC.qo (y':=.loop .busy none m R0 ps bV body) (x':=.loop { NL with state:=.busy }) oP IK j1 j2 rfl rfl (fun w' le tH r o q hq=>by
   rw[IK]at hq;cases hq
   exact⟨j1,_,tH,rfl,j4,j5,j6,fun t ht=>(j7 t ht).mono le,j8,j9,QZ⟩)
  refine wpIn_mono (ko _ _ hm w0 g1 _ a1 m SO false rec.body (some l) oS (by simp) (ck.mono fO) Ef ⟨IJ.1,fun t ht=>(IJ.2 t ht).mono C3⟩).1 fun e2 a2 w3 zf=>?_
  obtain⟨Mf,R2,g2,H2,e3,FQ,tg,uc,VE,vj,-,-⟩:=zf
  have ki:=xV _ _ FQ
  have u0:=tg.φ _ _ IK
  obtain⟨i1,NM,i2,i3,i4,i5,i6,i7,i8,i9,i10⟩:=uc.cu b _ ki l o' q' u0
  have fin:∀(jump:Option Code) (st:E6) (pe:Option Ex) (v:Bool),ry pe=jump→st.real=(if jump.isNone then .ready else .done)→v=jump.isNone →
    ((v=true∧Mf=.normal∧st=.ready∧pe=none)∨(v=false∧Mf≠.normal∧st=.done∧pe=some Mf)) →
    ∃v' w',(Instr.endRound l jump).run P w3=.ok v' w'∧K (a.put o.dst v') w':=by
   intro jump st pe v q1 q2 q3 q4
   obtain⟨sk,vn,th⟩:=uc.qo (y':=.loop st pe m R0 ps bV body) (x':=.loop { NM with state:=if jump.isNone then .ready else .done,pending:=jump }) ki u0 i1 i2 rfl rfl (fun w' le tH r o q hq=>by
    rw[u0]at hq;cases hq
    exact⟨i1,_,tH,q2.symm,q1.symm,i5,i6,fun t ht=>(i7 t ht).mono le,i8,i9,i10⟩)
   refine⟨_,_,run_endRound jump i2,?_⟩
   refine hk _ _ g2 (H2.set b (.loop st pe m R0 ps bV body)) (.bool v) ?_ (((fO.trans C3).trans tg).trans sk) vn (by rw[←q3];exact .bool v) (((NK.trans vg).trans vj).trans th)
   rcases q4 with⟨rfl,rfl,rfl,rfl⟩|⟨rfl,ba,rfl,rfl⟩
   ·exact .inl ⟨R2,H2,FQ,rfl,rfl⟩
   ·exact .inr ⟨Mf,R2,H2,FQ,ba,rfl,rfl⟩
  cases e2<;>simp only[oW,Option.some.injEq,reduceCtorEq]at e3<;>subst e3
  case normal=>exact fin none .ready none true rfl rfl rfl (.inl ⟨rfl,rfl,rfl,rfl⟩)
  case exit id=>exact fin (some (.exit id)) .done (some (.exit id)) false rfl rfl rfl (.inr ⟨rfl,by simp,rfl,rfl⟩)
  case ret=>exact fin (some .ret) .done (some .ret) false rfl rfl rfl (.inr ⟨rfl,by simp,rfl,rfl⟩)
end
theorem qv {P:Program}{w0:World}{F:Func}{n:Nat}{t0:T}{res:List Rs}:∀(ts:List T) (df:List Deferred) (bs:List Nat) (g:Ctx) (H:ae) (w:World) (R:aj) (a:Act) (Rr:Ending→World→Prop),
  r8 g ts df→nf ts=some bs→bs.Nodup→(∀b∈bs,H[b]?=some .wy)→SR w0 g H w→fJ g w n R a →
  (∀w' v,Le g w g w'→SR w0 g (kill H bs) w'→fJ g w' n R a→Fr g H g (kill H bs)→(results F a.tmps).run P w'=.ok v w'→VR g w' t0 v→Rr (.returned v) w') →
  mA R (kill H bs) res=some t0→(∀(g:Ctx) (w:World) (H:ae),SR w0 g H w→fJ g w n R a→mA R H res=some t0→∃v,(results F a.tmps).run P w=.ok v w∧VR g w t0 v) →
  LeavesInM (Fw none) 0 P F a.tmps Rr df .returning w:=by
 intro ts
 induction ts with
 | nil =>
  intro df bs g H w R a Rr hm hb _ _ sr hr hk qw bJ
  cases hm
  simp only[nf,Option.some.injEq]at hb;subst hb
  obtain⟨v,h1,h2⟩:=bJ g w H sr hr qw
  exact⟨v,h1,hk w v (.refl _ _) sr hr (.refl _ _) h1 h2⟩
 | cons t ts ih =>
  intro df bs g H w R a Rr hm hb jj C4 sr hr hk qw bJ
  cases hm with
  | @cons b r o q _ df hφ JV =>
   simp only[nf,yd]at hb
   split at hb
   ·rename_i b' SQ e1 e2
    cases e1
    cases hb
    have Q0:=C4 b (by simp)
    obtain⟨k1,k2⟩:=sr.cu b _ Q0 r o q hφ
    obtain⟨le,fP,mm⟩:=sr.qo (y':=.dead) (x':=.deferred none) Q0 hφ k1 k2 rfl rfl (fun _ _ _=>trivial)
    refine⟨by simp,.inl ⟨r,_,rfl,run_takeDeferred k2,?_⟩⟩
    simp only[List.nodup_cons]at jj
    refine ih df SQ g (H.set b .dead) _ R a Rr JV e2 jj.2 (fun c hc=>?_) fP ⟨hr.1,fun t ht=>(hr.2 t ht).mono le⟩ (fun w' v C3 Ef FR vg=>hk w' v (le.trans C3) Ef FR (mm.trans vg)) qw bJ
    exact db (C4 c (by simp[hc])) (by rintro rfl;exact jj.1 hc)
   ·cases hb
section
variable {P:Program} {w0 w ws:World} {g g0:Ctx} {H H0 H':ae} {R:aj} {a:Act} {n:Nat} {ops:Array Oper} {r:Option Nat} {mu:Bool} {i:Nat} {o:Oper} {st y8:List Rd}
theorem sm {d:Option Nat}{nn bytes t b len:Nat}{yy:X}{cs:List T}{gd:Gd}{v:T}(ho:ops[i]?=some o)(hc:dJ P n ops mu o st=some ⟨d,.b (.app nn bytes false (.r t) yy),gd,y8⟩)(hn:a.tmps.size=n)(hr:eE g w R a (tmpsOf o (.b (.app nn bytes false (.r t) yy)) gd))(hw:aS R gd=true)
  (h:SR w0 g H w) (ht:R t=.aE b 0 len nn) (hb:H[b]?=some (.cells cs)) (hlen:len*nn=cs.length) (h0:0<len)
  (he:ai (iq R t (.sl (.own H.length len) (fB cs 0 len nn))) (H.set b (.fz cs)++[.tok len]) (.app nn bytes false (.r t) yy)=some (v,H')) :
  ∃u w' g',(∀(K:Act→World→Prop) (Q:Exit→Act→World→Prop),K (a.put d u) w'→wpOpIn (Fw r) 0 P ops Q i K a w)∧Le g w g' w'∧SR w0 g' H' w'∧VR g' w' v u∧Fr g H g' H':=by
 have hm:=hr t (by simp[tmpsOf,rQ,u5,ct])
 rw[ht]at hm
 obtain⟨g4,sk,vn,th,zg⟩:=h.CO hb hm hlen h0
 have kj:eE g4 w (iq R t (.sl (.own H.length len) (fB cs 0 len nn))) a (tmpsOf o (.b (.app nn bytes false (.r t) yy)) gd):=fun u hu=>by
  by_cases e:u=t
  ·subst e
   simp only[iq,if_pos rfl]
   exact zg _ hm
  ·simp only[iq,if_neg e]
   exact(hr u hu).mono sk
 have tH:aS (iq R t (.sl (.own H.length len) (fB cs 0 len nn))) gd=true:=by
  cases gd with
  | none=>rfl
  | some p =>
   obtain⟨u,c⟩:=p
   by_cases e:u=t
   ·subst e
    simp[aS,ht]at hw
   ·simpa only[aS,iq,if_neg e]using hw
 obtain⟨u,w',g',k1,le,sr,hv,fr⟩:=qu (r:=r) ho hc hn kj tH vn he
 exact⟨u,w',g',k1,sk.trans le,sr,hv,th.trans fr⟩
end
def sn (tmps:Array Value):ResultVar→Sem Value
 | .tmp t=>pure (tmps.getD t undef)
 | .cell a t=>do loadVar t (←asAddr (tmps.getD a undef))
theorem iS {P:Program}{w0:World}{g:Ctx}{w:World}{H:ae}{R:aj}{a:Act}{n:Nat}(sr:SR w0 g H w):∀(l:List ResultVar) (res:List Rs) (ts:List T),kQ P l=some res→oO R H res=some ts→(∀t∈res,w9 n t=true)→fJ g w n R a →
  ∃vs:List Value,(l.mapM (sn a.tmps)).run P w=.ok vs w∧aW g w ts vs
 | [],res,ts,h,ht,_,_=>by simp[kQ]at h;subst h;simp[oO]at ht;subst ht;exact⟨[],by simp,aW.nil⟩
 | .tmp t :: l,res,ts,h,ht,hn,hr=>by
  simp only[kQ,Option.map_eq_some_iff]at h
  obtain⟨FT,h1,rfl⟩:=h
  simp only[oO,tq]at ht
  split at ht
  ·rename_i v vs hv gP
   cases ht;cases hv
   obtain⟨us,h2,h3⟩:=iS (P:=P) sr l FT vs h1 gP (fun t ht=>hn t (by simp[ht])) hr
   exact⟨a.tmps.getD t undef :: us,by rw[List.mapM_cons];simp only[Sem.run_bind,sn,Sem.run_pure,Result.andThen_ok,h2],aW.cons (hr.2 t (by simpa[w9]using hn (.t t) (by simp))) h3⟩
  ·cases ht
 | .cell c t :: l,res,ts,h,ht,hn,hr=>by
  simp only[kQ]at h
  split at h
  ·rename_i d i hu hi
   simp only[Option.map_eq_some_iff]at h
   obtain⟨FT,h1,rfl⟩:=h
   simp only[oO]at ht
   split at ht
   ·rename_i v vs hv gP
    cases ht
    obtain⟨us,h2,h3⟩:=iS (P:=P) sr l FT vs h1 gP (fun t ht=>hn t (by simp[ht])) hr
    simp only[tq]at hv
    split at hv
    ·rename_i cs tC
     have hc:=hr.2 c (by simpa[w9]using hn (.cl c (if cS d=true then i.size else 1) (cS d)) (by simp))
     obtain⟨u,w',g',bJ,hw,dA,hg⟩:=BU (P:=P) hu hi rfl (fun e=>by rw[if_pos e]) sr hc tC hv
     subst hw;subst hg
     obtain⟨r,o,VF,hp,_⟩:=jU sr hc tC
     have JW:(sn a.tmps (.cell c t)).run P w'=.ok u w':=by
      rw[←bJ,hp]
      have e:sn a.tmps (.cell c t)=(asAddr (a.tmps.getD c undef) >>= fun x=>loadVar t x):=rfl
      rw[e,hp]
      simp only[asAddr,Instr.loadAt,Instr.sureAddr,Sem.run_bind,Sem.run_pure,Result.andThen_ok]
     exact⟨u :: us,by rw[List.mapM_cons];simp only[Sem.run_bind,JW,Result.andThen_ok,h2,Sem.run_pure],aW.cons dA h3⟩
    ·cases hv
   ·cases ht
  ·cases h
theorem nX {P:Program}{fn:Func}{w0:World}{g:Ctx}{w:World}{H:ae}{R:aj}{a:Act}{n:Nat}{res:List Rs}{t:T}(sr:SR w0 g H w)(h:kQ P fn.results.toList=some res)(hn:∀t∈res,w9 n t=true)(hr:fJ g w n R a)(ht:mA R H res=some t):∃v,(results fn a.tmps).run P w=.ok v w∧VR g w t v:=by
 simp only[mA,Option.map_eq_some_iff]at ht
 obtain⟨ts,ht,rfl⟩:=ht
 obtain⟨vs,h1,h2⟩:=iS (P:=P) sr fn.results.toList res ts h ht hn hr
 have hl:ts.length=vs.length:=h2.1
 have e:results fn a.tmps=(fn.results.mapM (sn a.tmps) >>= fun vs=>pure (if h:vs.size=1 then vs[0]else .tuple vs)):=rfl
 refine⟨if h:vs.toArray.size=1 then vs.toArray[0]else .tuple vs.toArray,?_,?_⟩
 ·rw[e,Array.mapM_eq_mapM_toList]
  simp only[Sem.run_bind,Sem.run_map,map_eq_pure_bind,h1,Result.andThen_ok,Sem.run_pure]
 ·match ts,vs,hl,h2 with
  | [],[],_,_=>exact .bE rfl (by simp)
  | [t],[v],_,h2=>simpa[wD]using h2.head
  | t :: t' :: ts,v :: v' :: vs,_,h2 =>
   have:¬(v :: v' :: vs).toArray.size=1:=by simp
   rw[dif_neg this]
   simpa[wD]using h2.bE
theorem dK {P:Program}{n:Nat}{ops:Array Oper}{mu:Bool}{o:Oper}{st:List Rd}{y:O}(h:dJ P n ops mu o st=some y):y.d≠some n:=by
 obtain⟨_,_,_,_,e,_,h5⟩:=aN h
 subst e
 exact fun e=>Nat.lt_irrefl n (h5 n e)
theorem ti {P:Program}{n:Nat}{ops:Array Oper}{mu:Nat→Bool}{w0 w ws w':World}{df:List Deferred}{mk:T}{g g0 g':Ctx}{H H0 H':ae}{pre NN:List It}{L L':Array Bool}{R R':aj}{a a':Act}
  (h:Dr P n ops mu w0 df mk g0 ws H0 pre L g R H a w) (h':Dr P n ops mu w0 df mk g0 ws H0 NN L' g' R' H' a' w') (ck:dU P g):dU P g':=fun n c k=>by rw[h'.le.ck,←h.le.ck];exact ck n c k
theorem nY {P:Program}{an:An}{f:FuncId}{fn:Fn}(rp:aq P an f=some fn):∃F code res body,P.funcs[f]?=some F∧F.body=some code∧kQ P F.results.toList=some res∧aV P F.ntmps an true code=some body ∧
  cC P f=true∧F.params.size+F.nfree≤F.ntmps∧(∀t∈res,w9 F.ntmps t=true)∧fn=⟨F.ntmps,F.params.size+F.nfree,res,body⟩:=by
 unfold aq at rp
 cases hF:P.funcs[f]? with
 | none=>simp[hF]at rp
 | some F =>
  simp only[hF]at rp
  split at rp
  ·rename_i code res hb qw
   split at rp
   ·rename_i c ql
    split at rp
    ·rename_i hk
     simp only[Bool.and_eq_true,decide_eq_true_eq,List.all_eq_true]at hk
     obtain⟨⟨gm,bn⟩,au⟩:=hk
     cases rp
     exact⟨F,code,res,c,rfl,hb,qw,ql,gm,bn,au,rfl⟩
    ·cases rp
   ·cases rp
  ·cases rp
theorem nZ {F:Func}{g:Ctx}{w:World}{as:List T}{args:List Value}(hv:aW g w as args){k:Nat}(hn:as.length=k)(bn:k≤F.ntmps) :
  fJ g w F.ntmps (fA as) { tmps:=args.toArray++Array.replicate (F.ntmps-args.toArray.size) undef,defers:=[] }:=by
 have Mg:args.length=as.length:=hv.1.symm
 refine⟨by simp[Mg,hn];omega,fun t ht=>?_⟩
 by_cases Mh:t<as.length
 ·simp only[fA]
  rw[List.getD_eq_getElem?_getD,List.getElem?_eq_getElem Mh,Option.getD_some]
  rw[Array.getD_eq_getD_getElem?,Array.getElem?_append_left (by simpa[Mg]using Mh)]
  simp only[List.getElem?_toArray,List.getElem?_eq_getElem (Mg▸Mh:t<args.length),Option.getD_some]
  exact hv.2 t _ _ (List.getElem?_eq_getElem Mh) (List.getElem?_eq_getElem _)
 ·simp only[fA]
  rw[List.getD_eq_getElem?_getD,List.getElem?_eq_none (by omega),Option.getD_none]
  rw[Array.getD_eq_getD_getElem?,Array.getElem?_append_right (by simp[Mg];omega),Array.getElem?_replicate]
  split<;>exact fG
theorem iR.JX {w0 w:World}{n:Nat}{hr kj:Bool}{df:List Deferred}{mk:T}{g:Ctx}{H:ae}{Q:Out→ae→Prop}(hh:hr=false→kj=false){e:Exit}{a:Act}{u:World}(h:iR w0 n kj df mk g w H Q e a u):iR w0 n hr df mk g w H Q e a u :=
 h.trans (.refl _ _) (.refl _ _) id fun e=>⟨hh e,rfl,rfl⟩
theorem W.SS {P:Program}{E:Env}(hE:r7 P E){j:J}{H:ae}{Q:Out→ae→Prop}(h:W E j H Q):NH P j H Q:=by
 induction h with
 | @skip R H Q h =>
  intro w0 g w a n an top code r hc ht ck sr hr
  obtain rfl:=y9 hc
  exact⟨wpIn_skip ⟨.normal,R,g,H,rfl,h,.refl _ _,sr,hr,.refl _ _,id,fun _=>⟨rfl,rfl⟩⟩,by rintro _⟨⟩⟩
 | @exit id R H Q h =>
  intro w0 g w a n an top code r hc ht ck sr hr
  obtain rfl:=za hc
  exact⟨wpIn_exit ⟨.exit id,R,g,H,rfl,h,.refl _ _,sr,hr,.refl _ _,fun m=>m,fun _=>⟨rfl,rfl⟩⟩,by rintro _⟨⟩⟩
 | @ret R H Q h =>
  intro w0 g w a n an top code r hc ht ck sr hr
  obtain rfl:=CW hc
  exact⟨wpIn_ret ⟨.ret,R,g,H,rfl,h,.refl _ _,sr,hr,.refl _ _,id,fun _=>⟨rfl,rfl⟩⟩,by rintro _⟨⟩⟩
 | @Iw l R H Q _ ih =>
  intro w0 g w a n an top code r hc ht ck sr hr
  obtain⟨id,ops,mu,⟨rfl,h1⟩|⟨rfl,ord,gK,h1,h2⟩⟩:=CY hc
  ·exact⟨wpIn_mono (wpIn_region (ih.1 w0 g w H g w a n ops mu _ r h1 ck sr hr (.refl _ _) (.refl _ _))) fun e a w hp=>hp.QW,by rintro _⟨⟩⟩
  ·refine⟨wpIn_mono (wpIn_region_any (Q:=ub w0 n a.defers (R n) g w H Q) hE.mixed ?_) fun e a w hp=>hp.QW,by rintro _⟨⟩⟩
   obtain⟨fP,le⟩:=sr.drew (w':={ w with drawn:=w.drawn+1 }) (Tr.drew w) rfl
   have hd:=Dr.init (ops:=ops) (mu:=mu) (P:=P) (mk:=R n) fP hr.1 rfl (fun t ht=>(hr.2 t ht).mono le) le (.refl g H)
   refine ih.2 w0 n ops mu a.defers (R n) g w H [] _ g a _ ord gK r ops.size ck h1 h2 hd ?_
   exact Nat.le_trans (List.count_le_length) (by simp)
 | @seq x y R H Q M _ h2 h3 rn ko =>
  intro w0 g w a n an top code r hc ht ck sr hr
  obtain⟨c,d,rfl,k1,k2⟩:=CX hc
  refine⟨wpIn_seq (wpIn_mono (rn w0 g w a n an top c r k1 ht ck sr hr).1 fun e a' w' hp=>?_),by rintro _⟨⟩⟩
  have hb:(C.seq x y).jx=false→x.jx=false∧y.jx=false:=by simp[C.jx]
  obtain⟨ex,R',g',H',e1,hm,le,fP,kj,fr,rm,vo⟩:=hp
  cases e<;>simp only[oW,Option.some.injEq,reduceCtorEq]at e1<;>subst e1
  case normal =>
   exact wpIn_mono (ko R' H' hm w0 g' w' a' n an top d r k2 ht (ck.mono le) fP kj).1 fun e a2 w2 hp=>hp.trans le fr rm fun e=>⟨(hb e).2,vo (hb e).1⟩
  case exit id=>exact⟨_,R',g',H',rfl,h3 _ _ hm (by simp),le,fP,kj,fr,rm,fun e=>vo (hb e).1⟩
  case ret=>exact⟨_,R',g',H',rfl,h3 _ _ hm (by simp),le,fP,kj,fr,rm,fun e=>vo (hb e).1⟩
 | @cond x c d R H Q t hx _ ih =>
  intro w0 g w a n an top code r hc ht ck sr hr
  obtain⟨o,d',e',rfl,k1,k2,k3,k4⟩:=zb hc
  refine⟨wpIn_cond (t:=t) ?_ ?_,by rintro _⟨⟩⟩
  ·have hv:VR g w (.bool t) (a.eval o):=by
    cases o with
    | tmp u=>simp only[av,Option.some.injEq]at k1;subst k1;simp only[X.ev]at hx;rw[←hx];exact hr.2 u (k4 u rfl)
    | const v =>
     simp only[av,Option.map_eq_some_iff]at k1
     obtain⟨u,h1,rfl⟩:=k1
     simp only[X.ev]at hx;subst hx
     exact ji h1
    | «global» _=>simp[av]at k1
    | func f=>simp only[av,Option.some.injEq]at k1;subst k1;simp[X.ev]at hx
   generalize a.eval o=v at hv
   cases hv;rfl
  ·cases t
   ·exact wpIn_mono (ih w0 g w a n an top e' r k3 ht ck sr hr).1 fun e a w hp=>hp.JX (by simp[C.jx])
   ·exact wpIn_mono (ih w0 g w a n an top d' r k2 ht ck sr hr).1 fun e a w hp=>hp.JX (by simp[C.jx];intro h _;exact h)
 | @block id x R H Q M _ h2 h3 ih =>
  intro w0 g w a n an top code r hc ht ck sr hr
  obtain⟨c,rfl,k1⟩:=xk hc
  refine⟨wpIn_block (wpIn_mono (ih w0 g w a n an top c r k1 ht ck sr hr).1 fun e a' w' hp=>?_),by rintro _⟨⟩⟩
  obtain⟨ex,R',g',H',e1,hm,le,fP,kj,fr,vo⟩:=hp
  cases e<;>simp only[oW,Option.some.injEq,reduceCtorEq]at e1<;>subst e1
  case normal=>exact⟨_,R',g',H',rfl,h3 _ _ hm (by simp),le,fP,kj,fr,vo⟩
  case exit SI =>
   simp only[Exit.inBlock]
   split
   ·rename_i e;subst e;exact⟨_,R',g',H',rfl,h2 _ _ hm,le,fP,kj,fr,vo⟩
   ·rename_i e;exact⟨_,R',g',H',rfl,h3 _ _ hm (fun R2 e2=>by cases e2;exact e rfl),le,fP,kj,fr,vo⟩
  case ret=>exact⟨_,R',g',H',rfl,h3 _ _ hm (by simp),le,fP,kj,fr,vo⟩
 | @loop x R H Q M _ h2 h3 rn ko =>
  intro w0 g w a n an top code r hc ht ck sr hr
  obtain⟨c,rfl,k1⟩:=zd hc
  have key:nU (Fw r) 0 P c (iR w0 n x.loop.jx a.defers (R n) g w H Q) a w:=by
   refine r9 (wpIn_mono (rn w0 g w a n an top c r k1 ht ck sr hr).1 fun e a' w' hp=>?_)
   obtain⟨ex,R',g',H',e1,hm,le,fP,kj,fr,rm,vo⟩:=hp
   cases e<;>simp only[oW,Option.some.injEq,reduceCtorEq]at e1<;>subst e1
   case normal =>
    have:=(ko R' H' hm w0 g' w' a' n an top (.loop c) r hc ht (ck.mono le) fP kj).2 c rfl
    intro b k cs h1 h2 h4
    obtain⟨e,a2,w2,hq,kL⟩:=this b k cs h1 h2 h4
    exact⟨e,a2,w2,hq.trans le fr rm fun e=>⟨e,vo e⟩,kL⟩
   case exit id=>exact⟨_,R',g',H',rfl,h3 _ _ hm (by simp),le,fP,kj,fr,rm,vo⟩
   case ret=>exact⟨_,R',g',H',rfl,h3 _ _ hm (by simp),le,fP,kj,fr,rm,vo⟩
  exact⟨xi key,fun body e=>by cases e;exact key⟩
 | @cj m x ps bV body R H Q f cs M hx _ h2 ih =>
  intro w0 g w a n an top code r hc ht ck sr hr
  obtain⟨NO,qs,c,d,rfl,k1,k2,k3,k4,k5,rfl,k7,rfl⟩:=xl hc
  obtain rfl:=ht k4
  refine⟨wpIn_rangeFunc fun fn _=>?_,by rintro _⟨⟩⟩
  have hv:VR g w (.fn f cs) (a.eval NO):=by
   cases NO with
   | tmp u=>simp only[av,Option.some.injEq]at k1;subst k1;simp only[X.ev]at hx;rw[←hx];exact hr.2 u (k5 u (by simp[ct]))
   | const v =>
    simp only[av,Option.map_eq_some_iff]at k1
    obtain⟨u,h1,rfl⟩:=k1
    simp only[X.ev]at hx;subst hx
    exact ji h1
   | «global» _=>simp[av]at k1
   | func f'=>simp only[av,Option.some.injEq]at k1;subst k1;simp only[X.ev]at hx;cases hx;exact .fn rfl (by simp)
  generalize SU:a.eval NO=vf at hv
  cases hv with
  | @fn _ _ vs hl tC =>
   obtain⟨g1,fO,FC,NK,IK⟩:=sr.yR (x:=.deferred (some [])) (y:=.wy) rfl (fun g' w' _ q1 q2 q3 r o q hq=>by rw[q2]at hq;cases hq;exact⟨q1,q3⟩)
   have bn:(w.alloc (.deferred (some []))).heap.size=w.heap.size+1:=by simp
   obtain⟨g2,C3,Ef,vg,u0⟩:=FC.yR (x:=.loop { state:=.ready,pending:=none,fn,tmps:=a.tmps,params:=qs,assign:=c,body:=d,defers:=w.heap.size }) (y:=.loop .ready none m R qs.toList bV body) rfl
    (fun g' w' le q1 q2 q3 r o q hq=>by
     rw[q2]at hq;cases hq
     refine⟨q1,_,q3,rfl,rfl,rfl,hr.1,fun t ht=>((hr.2 t ht).mono fO).mono le,k7,?_,?_⟩
     ·rw[le.ck,fO.ck];exact(ck _ _ _).2 ⟨an,k2⟩
     ·rw[le.ck,fO.ck];exact(ck _ _ _).2 ⟨an,k3⟩)
   rw[bn]at u0
   have hlen:(H++[B.wy]).length=H.length+1:=by simp
   rw[hlen]at u0
   have su:H++[B.wy]++[B.loop .ready none m R qs.toList bV body]=H++[.wy,.loop .ready none m R qs.toList bV body]:=by simp
   rw[su]at Ef vg
   have FU:=fO.trans C3
   have JY:aW g2 ((w.alloc (.deferred (some []))).alloc (.loop { state:=.ready,pending:=none,fn,tmps:=a.tmps,params:=qs,assign:=c,body:=d,defers:=w.heap.size })) (.lz (H.length+1) :: cs) (.func (.yield (w.heap.size+1)) #[] #[] :: vs.toList) :=
    aW.cons (.lz u0) ⟨by simp[hl],fun i t v ha hb=>(tC i t v ha (by simpa using hb)).mono FU⟩
   obtain⟨gm,zh⟩:=ih w0 g2 _ _ (ck.mono FU) Ef JY
   refine⟨w.heap.size+1,[{ target:=.collected w.heap.size,args:=#[] }],((w.alloc (.deferred (some []))).alloc (.loop { state:=.ready,pending:=none,fn,tmps:=a.tmps,params:=qs,assign:=c,body:=d,defers:=w.heap.size })),{ target:=.fn (.func f) vs,args:=#[.func (.yield (w.heap.size+1)) #[] #[]] },((w.alloc (.deferred (some []))).alloc (.loop { state:=.ready,pending:=none,fn,tmps:=a.tmps,params:=qs,assign:=c,body:=d,defers:=w.heap.size })),f,#[.func (.yield (w.heap.size+1)) #[] #[]]++vs,((w.alloc (.deferred (some []))).alloc (.loop { state:=.ready,pending:=none,fn,tmps:=a.tmps,params:=qs,assign:=c,body:=d,defers:=w.heap.size })),run_enterLoop_outer _ _ _ _ _,?_,fun _ _=>trivial,?_,fun h=>by simp[Fw]at h,?_⟩
   ·simp only[resolve,SU,Deferred.ofValue]
    simp[Act.eval]
   ·exact gU gm
   ·have e3:(.func (.yield (w.heap.size+1)) #[] #[] :: vs.toList:List Value).toArray=#[.func (.yield (w.heap.size+1)) #[] #[]]++vs:=by simp
    rw[e3]at zh
    refine zh.mono fun e w3 ⟨v,t,g3,H3,he,hM,tg,uc,_,vj⟩=>?_
    subst he
    obtain⟨st,dP,cn,Mi,FV,hQ⟩:=h2 _ _ hM
    have Q1:=tg.φ _ _ u0
    obtain⟨j1,rec,j2,j3,j4,j5,j6,j7,j8,j9,QZ⟩:=uc.cu _ _ FV _ _ _ Q1
    obtain⟨sk,vn,th⟩:=uc.qo (y':=.dead) (x':=.loop { rec with state:=.exhausted }) FV Q1 j1 j2 rfl rfl (fun _ _ _=>trivial)
    refine⟨_,_,run_endLoop j2 (by rw[j3];cases st<;>simp[E6.real]at cn ⊢),?_⟩
    generalize w3.putObj (w.heap.size+1) (.loop { rec with state:=.exhausted })=W4 at sk vn ⊢
    rw[j4]
    have NP:=(FU.trans tg).trans sk
    have SV:Fr g H g3 (H3.set (H.length+1) .dead):=by
     have:=(NK.trans vg).trans (vj.trans th)
     exact this
    have post:∀e,oW e=some (ye dP)→iR w0 m (C.cj m x qs.toList bV body).jx a.defers (R m) g w H Q e { a with defers:=[{ target:=.collected w.heap.size,args:=#[] }]++a.defers } W4:=by
     intro e he
     refine⟨_,_,g3,_,he,hQ,NP,vn,⟨hr.1,fun t ht=>?_⟩,SV,fun hm=>?_,fun h=>by simp[C.jx]at h⟩
     ·simp only[iq];rw[if_neg (Nat.ne_of_lt ht)];exact(hr.2 t ht).mono NP
     ·obtain⟨ts,e1,e2⟩:=hm
      refine⟨.ptr H.length 0 :: ts,by simp[iq,e1,kx],.cons (((C3.trans tg).trans sk).φ _ _ IK) (e2.mono NP)⟩
    cases hp:dP with
    | none=>simp only[ry];exact post .normal (by rw[hp];rfl)
    | some e =>
     rcases ze (e:=e) (by rintro rfl;exact Mi hp)with⟨id,rfl,e5⟩|⟨rfl,e5⟩
     ·simp only[e5];exact wpIn_exit (post (.exit id) (by rw[hp];rfl))
     ·simp only[e5];exact wpIn_ret (post .ret (by rw[hp];rfl))
 | @nil R H Q h =>
  refine⟨fun w0 g0 ws H0 g w a n ops mu is r hc ck sr hr le fr=>?_,fun w0 n ops mu df mk g0 ws H0 pre L g a w ord gK r fuel ck h1 h2 hd hl=>?_⟩
  ·obtain rfl:=sd hc
   exact⟨.normal,R,g,H,rfl,h,le,sr,hr,fr,rfl,rfl⟩
  ·have dI:=bU ord pre gK h1
   cases gK with
   | cons _ _=>simp at h2
   | nil=>exact xj (by simpa using dI) h fuel L g a w hl hd
 | @no o l R H Q hg _ ih =>
  refine⟨fun w0 g0 ws H0 g w a n ops mu is r hc ck sr hr le fr=>?_,fun w0 n ops mu df mk g0 ws H0 pre L g a w ord gK r fuel ck h1 h2 hd hl=>?_⟩
  ·obtain⟨i,oJ,oper,rfl,ho,dh,dw⟩:=cg hc
   rw[wpOpsIn_cons]
   refine ve ho dh hr.1 (hr.rg (kT dh)) hg ?_
   have:=ih.1 w0 g0 ws H0 g w (a.put o.d undef) n ops mu oJ r dw ck sr (hr.put (by obtain⟨_,_,_,_,e,_,h5⟩:=aN dh;rw[e];exact h5) (.refl _ _) fG) le fr
   rwa[fH,bG (dK dh)]at this
  ·obtain⟨x,l',dB,oper,rfl,rfl,h3,hh,h4⟩:=eF h1 h2
   cases he:x.early with
   | true=>exact ih.2 w0 n ops mu df mk g0 ws H0 _ L g a w dB l' r fuel ck h4 h3 (hd.CZ hh he hg) hl
   | false =>
    refine cU (Tl:=fun R' H'=>R'=aR R x.o.d bq∧H'=H) hh he (bU ord pre _ h1) (cf dB _ l' h4) ?_ ?_ fuel L g a w hl hd
    ·rintro R' H'⟨rfl,rfl⟩ fuel L' g' a' w' hL gT
     exact ih.2 w0 n ops mu df mk g0 ws H0 _ L' g' a' w' dB l' r fuel (ti hd gT ck) h4 h3 gT hL
    ·intro L g a w hd hp K hK
     exact ve hh.ho hh.co hd.qq (hd.cV hh hp) hg (hK _ _ g _ w ⟨rfl,rfl⟩ (hd.both hh he hp (.refl _ _) hd.sr fG (.refl _ _) fun _ _ _ _ _ _ _ _ _ e=>e))
 | @op d b gd s l R H Q v H' hg hv hs _ ih =>
  refine⟨fun w0 g0 ws H0 g w a n ops mu is r hc ck sr hr le fr=>?_,fun w0 n ops mu df mk g0 ws H0 pre L g a w ord gK r fuel ck h1 h2 hd hl=>?_⟩
  ·obtain⟨i,oJ,oper,rfl,ho,dh,dw⟩:=cg hc
   rw[wpOpsIn_cons]
   obtain⟨u,w',g',bZ,ir,fP,dA,mm⟩:=qu (r:=r) ho dh hr.1 (hr.rg (kT dh)) hg sr hv
   refine bZ _ _ ?_
   have:=ih.1 w0 g0 ws H0 g' w' (a.put d u) n ops mu oJ r dw (ck.mono ir) fP (hr.put (by obtain⟨_,_,_,_,e,_,h5⟩:=aN dh;cases e;exact h5) ir dA) (le.trans ir) (fr.trans mm)
   rwa[fH,bG (dK dh)]at this
  ·obtain⟨x,l',dB,oper,rfl,jq,h3,hh,h4⟩:=eF h1 h2
   have vq:x.o.d=d:=by rw[jq]
   cases he:x.early with
   | true =>
    have:=hd.C1 hh he (b:=b) (by rw[jq]) (by rw[jq];exact hg) hv
    rw[vq]at this
    exact ih.2 w0 n ops mu df mk g0 ws H0 _ L g a w dB l' r fuel ck h4 h3 this hl
   | false =>
    refine cU (Tl:=fun R' H2=>R'=aR R d v∧H2=H') hh he (bU ord pre _ h1) (cf dB _ l' h4) ?_ ?_ fuel L g a w hl hd
    ·rintro R' H'⟨rfl,rfl⟩ fuel L' g' a' w' hL gT
     exact ih.2 w0 n ops mu df mk g0 ws H0 _ L' g' a' w' dB l' r fuel (ti hd gT ck) h4 h3 gT hL
    ·intro L2 g2 a2 w2 cw hp K hK
     have C5:dU P g2:=ti hd cw ck
     have dh:=hh.co
     have mj:=cw.cV hh hp
     have cn:=cw.stays hh he hp (H':=H') (by rw[jq];exact hs)
     rw[jq]at dh mj
     obtain⟨u,w',g',bZ,ir,fP,dA,mm⟩:=qu (r:=r) hh.ho dh cw.qq mj hg cw.sr hv
     refine bZ _ _ (hK _ _ g' _ w' ⟨rfl,rfl⟩ ?_)
     have:=cw.both hh he hp ir fP dA mm cn
     rwa[vq]at this
 | @Iy d nn bytes yy gd s l R H Q b len cs v H' t hg ht hb hlen h0 hv hs _ ih =>
  refine⟨fun w0 g0 ws H0 g w a n ops mu is r hc ck sr hr le fr=>?_,fun w0 n ops mu df mk g0 ws H0 pre L g a w ord gK r fuel ck h1 h2 hd hl=>?_⟩
  ·obtain⟨i,oJ,oper,rfl,ho,dh,dw⟩:=cg hc
   rw[wpOpsIn_cons]
   obtain⟨u,w',g',bZ,ir,fP,dA,mm⟩:=sm (r:=r) ho dh hr.1 (hr.rg (kT dh)) hg sr ht hb hlen h0 hv
   refine bZ _ _ ?_
   have:=ih.1 w0 g0 ws H0 g' w' (a.put d u) n ops mu oJ r dw (ck.mono ir) fP (hr.put (by obtain⟨_,_,_,_,e,_,h5⟩:=aN dh;cases e;exact h5) ir dA) (le.trans ir) (fr.trans mm)
   rwa[fH,bG (dK dh)]at this
  ·obtain⟨x,l',dB,oper,rfl,jq,h3,hh,h4⟩:=eF h1 h2
   have vq:x.o.d=d:=by rw[jq]
   cases he:x.early with
   | true =>
    have:=(hh.kl he).1
    rw[jq]at this
    exact absurd (by cases d<;>rfl) this
   | false =>
    refine cU (Tl:=fun R' H2=>R'=aR R d v∧H2=H') hh he (bU ord pre _ h1) (cf dB _ l' h4) ?_ ?_ fuel L g a w hl hd
    ·rintro R' H'⟨rfl,rfl⟩ fuel L' g' a' w' hL gT
     exact ih.2 w0 n ops mu df mk g0 ws H0 _ L' g' a' w' dB l' r fuel (ti hd gT ck) h4 h3 gT hL
    ·intro L2 g2 a2 w2 cw hp K hK
     have C5:dU P g2:=ti hd cw ck
     have dh:=hh.co
     have mj:=cw.cV hh hp
     have cn:=cw.stays hh he hp (H':=H') (by rw[jq];exact hs)
     rw[jq]at dh mj
     obtain⟨u,w',g',bZ,ir,fP,dA,mm⟩:=sm (r:=r) hh.ho dh cw.qq mj hg cw.sr ht hb hlen h0 hv
     refine bZ _ _ (hK _ _ g' _ w' ⟨rfl,rfl⟩ ?_)
     have:=cw.both hh he hp ir fP dA mm cn
     rwa[vq]at this
 | @call d f as gd s l R H Q M hg _ hs h2 rn ko =>
  refine⟨fun w0 g0 ws H0 g w a n ops mu is r hc ck sr hr le fr=>?_,fun w0 n ops mu df mk g0 ws H0 pre L g a w ord gK r fuel ck h1 h2 hd hl=>?_⟩
  ·obtain⟨i,oJ,oper,rfl,ho,dh,dw⟩:=cg hc
   rw[wpOpsIn_cons]
   refine pC (r:=r) ho dh hr.1 (hr.rg (kT dh)) hg (fun args hv=>rn w0 g w args ck sr hv) fun u w' g' H' t hM ir fP dA mm=>?_
   have:=(ko t H' hM).1 w0 g0 ws H0 g' w' (a.put d u) n ops mu oJ r dw (ck.mono ir) fP (hr.put (by obtain⟨_,_,_,_,e,_,h5⟩:=aN dh;cases e;exact h5) ir dA) (le.trans ir) (fr.trans mm)
   rwa[fH,bG (dK dh)]at this
  ·obtain⟨x,l',dB,oper,rfl,jq,h3,hh,h4⟩:=eF h1 h2
   have vq:x.o.d=d:=by rw[jq]
   cases he:x.early with
   | true=>exact absurd (by rw[jq];rfl) (hh.kl he).1
   | false =>
    refine cU (Tl:=fun R' H2=>∃v,M (.val v) H2∧R'=aR R d v) hh he (bU ord pre _ h1) (cf dB _ l' h4) ?_ ?_ fuel L g a w hl hd
    ·rintro R' H'⟨v,hM,rfl⟩ fuel L' g' a' w' hL gT
     exact(ko v H' hM).2 w0 n ops mu df mk g0 ws H0 _ L' g' a' w' dB l' r fuel (ti hd gT ck) h4 h3 gT hL
    ·intro L2 g2 a2 w2 cw hp K hK
     have C5:dU P g2:=ti hd cw ck
     have dh:=hh.co
     have mj:=cw.cV hh hp
     rw[jq]at dh mj
     refine pC (r:=r) hh.ho dh cw.qq mj hg (fun args hv=>rn w0 g2 w2 args C5 cw.sr hv) fun u w' g' H' t hM ir fP dA mm=>hK _ H' g' _ w' ⟨t,hM,rfl⟩ ?_
     have cn:=cw.stays hh he hp (H':=H') (by rw[jq];exact hs t H' hM)
     have:=cw.both hh he hp ir fP dA mm cn
     rwa[vq]at this
 | @aX d xx f cs as gd s l R H Q M hg hf _ hs h2 rn ko =>
  refine⟨fun w0 g0 ws H0 g w a n ops mu is r hc ck sr hr le fr=>?_,fun w0 n ops mu df mk g0 ws H0 pre L g a w ord gK r fuel ck h1 h2 hd hl=>?_⟩
  ·obtain⟨i,oJ,oper,rfl,ho,dh,dw⟩:=cg hc
   rw[wpOpsIn_cons]
   refine nV (r:=r) ho dh hr.1 (hr.rg (kT dh)) hg hf (fun args hv=>rn w0 g w args ck sr hv) fun u w' g' H' t hM ir fP dA mm=>?_
   have:=(ko t H' hM).1 w0 g0 ws H0 g' w' (a.put d u) n ops mu oJ r dw (ck.mono ir) fP (hr.put (by obtain⟨_,_,_,_,e,_,h5⟩:=aN dh;cases e;exact h5) ir dA) (le.trans ir) (fr.trans mm)
   rwa[fH,bG (dK dh)]at this
  ·obtain⟨x,l',dB,oper,rfl,jq,h3,hh,h4⟩:=eF h1 h2
   have vq:x.o.d=d:=by rw[jq]
   cases he:x.early with
   | true=>exact absurd (by rw[jq];rfl) (hh.kl he).1
   | false =>
    refine cU (Tl:=fun R' H2=>∃v,M (.val v) H2∧R'=aR R d v) hh he (bU ord pre _ h1) (cf dB _ l' h4) ?_ ?_ fuel L g a w hl hd
    ·rintro R' H'⟨v,hM,rfl⟩ fuel L' g' a' w' hL gT
     exact(ko v H' hM).2 w0 n ops mu df mk g0 ws H0 _ L' g' a' w' dB l' r fuel (ti hd gT ck) h4 h3 gT hL
    ·intro L2 g2 a2 w2 cw hp K hK
     have C5:dU P g2:=ti hd cw ck
     have dh:=hh.co
     have mj:=cw.cV hh hp
     rw[jq]at dh mj
     refine nV (r:=r) hh.ho dh cw.qq mj hg hf (fun args hv=>rn w0 g2 w2 args C5 cw.sr hv) fun u w' g' H' t hM ir fP dA mm=>hK _ H' g' _ w' ⟨t,hM,rfl⟩ ?_
     have cn:=cw.stays hh he hp (H':=H') (by rw[jq];exact hs t H' hM)
     have:=cw.both hh he hp ir fP dA mm cn
     rwa[vq]at this
 | @lz d xx b as gd s l R H Q m R0 ps bV body M1 M hg hf hb hn _ xU _ xV Bx _ D4 _ rn ko IL IM =>
  refine⟨fun w0 g0 ws H0 g w a n ops mu is r hc ck sr hr le fr=>?_,fun w0 n ops mu df mk g0 ws H0 pre L g a w ord gK r fuel ck h1 h2 hd hl=>?_⟩
  ·obtain⟨i,oJ,oper,rfl,ho,dh,dw⟩:=cg hc
   rw[wpOpsIn_cons]
   refine sg (r:=r) ho dh hr.1 (hr.rg (kT dh)) hg hf hb hn ck sr rn xU ko xV fun u w' g' H' t tG ir fP dA mm=>?_
   have JZ:=hr.put (d:=d) (by obtain⟨_,_,_,_,e,_,h5⟩:=aN dh;cases e;exact h5) ir dA
   rcases tG with⟨R',H2,hM,rfl,rfl⟩|⟨e,R',H2,hM,ba,rfl,rfl⟩
   ·have:=(IL R' H2 hM).1 w0 g0 ws H0 g' w' (a.put d u) n ops mu oJ r dw (ck.mono ir) fP JZ (le.trans ir) (fr.trans mm)
    rwa[fH,bG (dK dh)]at this
   ·have:=(IM e R' H2 hM ba).1 w0 g0 ws H0 g' w' (a.put d u) n ops mu oJ r dw (ck.mono ir) fP JZ (le.trans ir) (fr.trans mm)
    rwa[fH,bG (dK dh)]at this
  ·obtain⟨x,l',dB,oper,rfl,jq,h3,hh,h4⟩:=eF h1 h2
   have vq:x.o.d=d:=by rw[jq]
   cases he:x.early with
   | true=>exact absurd (by rw[jq];rfl) (hh.kl he).1
   | false =>
    refine cU (Tl:=fun R' H'=>(∃R2 H2,M (.ex .normal R2) H2∧R'=aR R d (.bool true)∧H'=H2.set b (.loop .ready none m R0 ps bV body))∨(∃e R2 H2,M (.ex e R2) H2∧e≠.normal∧R'=aR R d (.bool false)∧H'=H2.set b (.loop .done (some e) m R0 ps bV body)))
     hh he (bU ord pre _ h1) (cf dB _ l' h4) ?_ ?_ fuel L g a w hl hd
    ·rintro R' H' (⟨R2,H2,hM,rfl,rfl⟩|⟨e,R2,H2,hM,ba,rfl,rfl⟩) fuel L' g' a' w' hL gT
     ·exact(IL R2 H2 hM).2 w0 n ops mu df mk g0 ws H0 _ L' g' a' w' dB l' r fuel (ti hd gT ck) h4 h3 gT hL
     ·exact(IM e R2 H2 hM ba).2 w0 n ops mu df mk g0 ws H0 _ L' g' a' w' dB l' r fuel (ti hd gT ck) h4 h3 gT hL
    ·intro L2 g2 a2 w2 cw hp K hK
     have C5:dU P g2:=ti hd cw ck
     have dh:=hh.co
     have mj:=cw.cV hh hp
     rw[jq]at dh mj
     refine sg (r:=r) hh.ho dh cw.qq mj hg hf hb hn C5 cw.sr rn xU ko xV fun u w' g' H' t tG ir fP dA mm=>?_
     have ki:∀(hs:gb R H' s),Dr P n ops mu w0 df mk g0 ws H0 (pre++[x]) (L2.setIfInBounds x.i true) g' (aR R d t) H' (a2.put d u) w':=fun hs=>by
      have cn:=cw.stays hh he hp (H':=H') (by rw[jq];exact hs)
      have:=cw.both hh he hp ir fP dA mm cn
      rwa[vq]at this
     rcases tG with⟨R',H2,hM,rfl,rfl⟩|⟨e,R',H2,hM,ba,rfl,rfl⟩
     ·exact hK _ _ g' _ w' (.inl ⟨R',H2,hM,rfl,rfl⟩) (ki (Bx R' H2 hM))
     ·exact hK _ _ g' _ w' (.inr ⟨e,R',H2,hM,ba,rfl,rfl⟩) (ki (D4 e R' H2 hM ba))
 | @wE d neg c xx yy s l R H Q hs _ hx hy hc ih =>
  subst hc
  subst hs
  refine⟨fun w0 g0 ws H0 g w a n ops mu is r hc ck sr hr le fr=>?_,fun w0 n ops mu df mk g0 ws H0 pre L g a w ord gK r fuel ck h1 h2 hd hl=>?_⟩
  ·obtain⟨i,oJ,oper,rfl,ho,dh,dw⟩:=cg hc
   rw[wpOpsIn_cons]
   obtain⟨b,bZ⟩:=pB (r:=r) ho dh hr.1 (hr.rg (kT dh)) rfl hx hy
   refine bZ _ _ ?_
   have:=(ih b).1 w0 g0 ws H0 g w (a.put d (.bool b)) n ops mu oJ r dw ck sr (hr.put (by obtain⟨_,_,_,_,e,_,h5⟩:=aN dh;cases e;exact h5) (.refl _ _) (.bool b)) le fr
   rwa[fH,bG (dK dh)]at this
  ·obtain⟨x,l',dB,oper,rfl,jq,h3,hh,h4⟩:=eF h1 h2
   have vq:x.o.d=d:=by rw[jq]
   cases he:x.early with
   | true =>
    have:=(hh.kl he).1
    rw[jq]at this
    exact absurd (by cases d<;>rfl) this
   | false =>
    refine cU (Tl:=fun R' H2=>∃b:Bool,R'=aR R d (.bool b)∧H2=H) hh he (bU ord pre _ h1) (cf dB _ l' h4) ?_ ?_ fuel L g a w hl hd
    ·rintro R' H'⟨b,rfl,rfl⟩ fuel L' g' a' w' hL gT
     exact(ih b).2 w0 n ops mu df mk g0 ws H0 _ L' g' a' w' dB l' r fuel (ti hd gT ck) h4 h3 gT hL
    ·intro L2 g2 a2 w2 cw hp K hK
     have C5:dU P g2:=ti hd cw ck
     have dh:=hh.co
     have mj:=cw.cV hh hp
     rw[jq]at dh mj
     obtain⟨b,bZ⟩:=pB (r:=r) hh.ho dh cw.qq mj rfl hx hy
     refine bZ _ _ (hK _ H g2 _ w2 ⟨b,rfl,rfl⟩ ?_)
     have:=cw.both hh he hp (.refl _ _) cw.sr (.bool b) (.refl _ _) fun _ _ _ _ _ _ _ _ _ e=>e
     rwa[vq]at this
 | @oE d xx gd s l R H Q b bi es ix cur hg hx hb hs _ ih =>
  refine⟨fun w0 g0 ws H0 g w a n ops mu is r hc ck sr hr le fr=>?_,fun w0 n ops mu df mk g0 ws H0 pre L g a w ord gK r fuel ck h1 h2 hd hl=>?_⟩
  ·obtain⟨i,oJ,oper,rfl,ho,dh,dw⟩:=cg hc
   rw[wpOpsIn_cons]
   obtain⟨t,H',u,w',g',hM,bZ,ir,fP,dA,mm⟩:=sb (r:=r) ho dh hr.1 (hr.rg (kT dh)) hg sr hx hb
   refine bZ _ _ ?_
   have:=(ih t H' hM).1 w0 g0 ws H0 g' w' (a.put d u) n ops mu oJ r dw (ck.mono ir) fP (hr.put (by obtain⟨_,_,_,_,e,_,h5⟩:=aN dh;cases e;exact h5) ir dA) (le.trans ir) (fr.trans mm)
   rwa[fH,bG (dK dh)]at this
  ·obtain⟨x,l',dB,oper,rfl,jq,h3,hh,h4⟩:=eF h1 h2
   have vq:x.o.d=d:=by rw[jq]
   cases he:x.early with
   | true =>
    have:=(hh.kl he).1
    rw[jq]at this
    exact absurd (by cases d<;>rfl) this
   | false =>
    refine cU (Tl:=fun R' H2=>∃v,kz H b bi es ix v H2∧R'=aR R d v) hh he (bU ord pre _ h1) (cf dB _ l' h4) ?_ ?_ fuel L g a w hl hd
    ·rintro R' H'⟨v,hM,rfl⟩ fuel L' g' a' w' hL gT
     exact(ih v H' hM).2 w0 n ops mu df mk g0 ws H0 _ L' g' a' w' dB l' r fuel (ti hd gT ck) h4 h3 gT hL
    ·intro L2 g2 a2 w2 cw hp K hK
     have C5:dU P g2:=ti hd cw ck
     have dh:=hh.co
     have mj:=cw.cV hh hp
     rw[jq]at dh mj
     obtain⟨t,H',u,w',g',hM,bZ,ir,fP,dA,mm⟩:=sb (r:=r) hh.ho dh cw.qq mj hg cw.sr hx hb
     refine bZ _ _ (hK _ H' g' _ w' ⟨t,hM,rfl⟩ ?_)
     have cn:=cw.stays hh he hp (H':=H') (by rw[jq];exact hs t H' hM)
     have:=cw.both hh he hp ir fP dA mm cn
     rwa[vq]at this
 | @shr f as H Q M _ h2 ih =>
  intro w0 g w args ck sr hv
  obtain⟨gm,hc⟩:=ih w0 g w args ck sr hv
  refine⟨gm,hc.mono fun e w3 ⟨v,t,g3,H3,he,hM,tg,uc,dA,vj⟩=>?_⟩
  obtain⟨t',b,cs,k,ht,ib,hb,hq⟩:=h2 _ _ hM
  cases ht
  have hφ:∃x,g3.φ b=some x:=by
   cases dA with
   | aE h=>simp only[uM]at ib;subst ib;exact⟨_,h⟩
   | bE hl h2 =>
    obtain⟨off,len,n,hm⟩:=ib
    obtain⟨i,hi⟩:=List.mem_iff_getElem?.1 hm
    have au:=(List.getElem?_eq_some_iff.1 hi).1
    obtain⟨u,hu⟩:∃u,(Array.mk _)[i]?=some u:=⟨_,Array.getElem?_eq_getElem (Nat.lt_of_lt_of_eq au hl.symm)⟩
    have:=h2 i _ _ hi hu
    cases this with
    | aE h=>exact⟨_,h⟩
   | _=>exact ib.elim
  obtain⟨vn,th⟩:=uc.shrink k hb hφ
  exact⟨v,_,g3,_,he,hq,tg,vn,dA,vj.trans th⟩
 | @Ix f as H Q fn M hf hn _ h2 ih =>
  intro w0 g w args ck sr hv
  obtain⟨an,rp⟩:=hE.fn f fn hf
  obtain⟨F,code,res,body,hF,hb,qw,ql,gm,bn,au,rfl⟩:=nY rp
  refine⟨gm,callsIn_of_wp_marks hF hb trivial ?_⟩
  have FW:=nZ (F:=F) hv hn bn
  refine wpIn_mono (ih w0 g w _ F.ntmps an true code none ql (fun _=>rfl) ck sr FW).1 fun e a' w' zi=>?_
  obtain⟨ex,R',g',H',e1,hm,le,fP,kj,fr,rm,_⟩:=zi
  obtain⟨R2,bs,hex,JV,jj,C4,v0,FX,hq⟩:=h2 _ _ hm
  have NQ:Mk g (fA as F.ntmps) []:=⟨[],by simp only[fA];rw[List.getD_eq_getElem?_getD,List.getElem?_eq_none (by simp only at hn;omega)];rfl,.nil⟩
  obtain⟨ts,tf,SW⟩:=rm NQ
  have ud:R2=R'→LeavesInM (Fw none) 0 P F a'.tmps (pA w0 g w H fun v H'=>Q (.val v) H') a'.defers .returning w':=by
   rintro rfl
   simp only at JV hq FX
   rw[tf]at JV
   refine qv ts a'.defers bs g' H' w' R2 a' _ SW JV jj C4 fP kj (fun w2 v C3 Ef _ vg _ dA=>⟨v,_,g',_,rfl,hq,le.trans C3,Ef,dA,fr.trans vg⟩) FX fun g w H sr hr ht=>nX (P:=P) sr qw au hr ht
  cases e<;>simp only[oW,Option.some.injEq,reduceCtorEq]at e1<;>subst e1
  case normal=>rcases hex with hex|hex<;>cases hex;exact ud rfl
  case exit id=>rcases hex with hex|hex<;>cases hex
  case ret=>rcases hex with hex|hex<;>cases hex;exact ud rfl
 | @fn f as H Q fn M hf SX hn _ h2 ih =>
  intro w0 g w args ck sr hv
  obtain⟨an,rp⟩:=hE.fn f fn hf
  obtain⟨F,code,res,body,hF,hb,qw,ql,gm,bn,au,rfl⟩:=nY rp
  refine⟨gm,callsIn_of_wp hF hb trivial ?_⟩
  have FW:=nZ (F:=F) hv hn bn
  refine wpIn_mono (ih w0 g w _ F.ntmps an true code none ql (fun _=>rfl) ck sr FW).1 fun e a' w' zi=>?_
  obtain⟨ex,R',g',H',e1,hm,le,fP,kj,fr,_,vo⟩:=zi
  obtain⟨R2,hex,v0,FX,hq⟩:=h2 _ _ hm
  have ud:∀(R2:aj),R2=R'→mA R2 H' res=some v0→a'.defers=[]∧∃v,(results F a'.tmps).run P w'=.ok v w'∧pA w0 g w H (fun v H'=>Q (.val v) H') (.returned v) w':=by
   rintro R2 rfl FX
   obtain⟨v,bJ,dA⟩:=nX (P:=P) fP qw au kj FX
   exact⟨(vo SX).2,v,bJ,v,_,g',H',rfl,hq,le,fP,dA,fr⟩
  cases e<;>simp only[oW,Option.some.injEq,reduceCtorEq]at e1<;>subst e1
  case normal=>rcases hex with hex|hex<;>cases hex;exact ud _ rfl FX
  case exit id=>rcases hex with hex|hex<;>cases hex
  case ret=>rcases hex with hex|hex<;>cases hex;exact ud _ rfl FX
 | @wF f as H Q b off len n i M hi _ h2 ih =>
  intro w0 g w args ck sr hv
  have au:=(List.getElem?_eq_some_iff.1 hi).1
  have hl:=hv.1
  have Eg:=hv.2 i _ _ hi (List.getElem?_eq_getElem (by omega))
  have hex:∃c,len≤c∧VR g w (.cQ b off len n c) (args[i]'(by omega)):=by
   generalize args[i]'(by omega)=u at Eg
   cases Eg with
   | aE h hc hq=>exact⟨_,hc,.cQ h hc hq⟩
  obtain⟨c,hc,rI⟩:=hex
  have w8:aW g w (as.set i (.cQ b off len n c)) args:=⟨by simp[hl],fun j t v ha hb=>by
   by_cases e:j=i
   ·subst e
    rw[List.getElem?_set_self au]at ha
    cases ha
    rw[List.getElem?_eq_getElem (by omega)]at hb
    cases hb
    exact rI
   ·rw[List.getElem?_set_ne (Ne.symm e)]at ha
    exact hv.2 j t v ha hb⟩
  obtain⟨gm,ql⟩:=ih c hc w0 g w args ck sr w8
  refine⟨gm,ql.mono fun e w3 ⟨v,t,g3,H3,he,hM,tg,uc,dA,vj⟩=>?_⟩
  exact⟨v,_,g3,H3,he,h2 _ _ hM,tg,uc,dA.wz,vj⟩
 | @ng f as H Q M _ h2 ih =>
  intro w0 g w args ck sr hv
  obtain⟨gm,hc⟩:=ih w0 g w args ck sr hv
  refine⟨gm,hc.mono fun e w3 ⟨v,t,g3,H3,he,hM,tg,uc,dA,vj⟩=>?_⟩
  obtain⟨t',b,cs,ht,ib,hb,hq⟩:=h2 _ _ hM
  cases ht
  have hφ:∃x,g3.φ b=some x:=by
   cases dA with
   | aE h=>simp only[uM]at ib;subst ib;exact⟨_,h⟩
   | bE hl h2 =>
    obtain⟨off,len,n,hm⟩:=ib
    obtain⟨i,hi⟩:=List.mem_iff_getElem?.1 hm
    have au:=(List.getElem?_eq_some_iff.1 hi).1
    obtain⟨u,hu⟩:∃u,(Array.mk _)[i]?=some u:=⟨_,Array.getElem?_eq_getElem (Nat.lt_of_lt_of_eq au hl.symm)⟩
    have:=h2 i _ _ hi hu
    cases this with
    | aE h=>exact⟨_,h⟩
   | _=>exact ib.elim
  obtain⟨g4,sk,vn,th,zg⟩:=uc.freeze hb hφ
  exact⟨v,_,g4,_,he,hq,tg.trans sk,vn,zg _ _ dA,vj.trans th⟩
 | @yf f as H Q b off len n cs i hi hb _ ih =>
  intro w0 g w args ck sr hv
  have au:=(List.getElem?_eq_some_iff.1 hi).1
  have hl:=hv.1
  have Eg:=hv.2 i _ _ hi (List.getElem?_eq_getElem (by omega))
  have hφ:∃x,g.φ b=some x:=by
   generalize args[i]'(by omega)=u at Eg
   cases Eg with
   | aE h=>exact⟨_,h⟩
  obtain⟨g4,sk,vn,th,zg⟩:=sr.freeze hb hφ
  have w8:aW g4 w (as.map (BQ b cs)) args:=⟨by simp[hl],fun j t v ha fC=>by
   rw[List.getElem?_map]at ha
   obtain⟨t0,h0,rfl⟩:=Option.map_eq_some_iff.1 ha
   exact zg _ _ (hv.2 j t0 v h0 fC)⟩
  obtain⟨gm,hc⟩:=ih w0 g4 w args (ck.mono sk) vn w8
  exact⟨gm,hc.mono fun e w3 ⟨v,t,g3,H3,he,hM,tg,uc,dA,vj⟩=>⟨v,t,g3,H3,he,hM,sk.trans tg,uc,dA,th.trans vj⟩⟩
 | @Jk f as H Q b cs hk hb _ ih =>
  intro w0 g w args ck sr hv
  have hφ:∃x,g.φ b=some x:=by
   obtain⟨i,b',off,len,n,hi,hk⟩:=hk
   have au:=(List.getElem?_eq_some_iff.1 hi).1
   have hl:=hv.1
   have Eg:=hv.2 i _ _ hi (List.getElem?_eq_getElem (by omega))
   generalize args[i]'(by omega)=u at Eg
   cases Eg with
   | @aE _ _ _ _ r o q cap h0 =>
    rcases hk with rfl|⟨Sx,j,E7,E8,n',fC,hc⟩
    ·exact⟨_,h0⟩
    ·have rI:∃v,VR g w (.aE b E7 E8 n') v:=by
      rcases fC with fC|fC
      ·obtain⟨_,v,_,w8⟩:=(sr.cu _ _ fC r o q h0).2.2 j _ hc
       exact⟨v,w8⟩
      ·obtain⟨_,v,_,w8⟩:=(sr.cu _ _ fC r o q h0).2 j _ hc
       exact⟨v,w8⟩
     obtain⟨v,rI⟩:=rI
     cases rI with
     | aE h=>exact⟨_,h⟩
  obtain⟨g4,sk,vn,th⟩:=sr.CN hb hφ
  obtain⟨gm,hc⟩:=ih w0 g4 w args (ck.mono sk) vn (hv.mono sk)
  exact⟨gm,hc.mono fun e w3 ⟨v,t,g3,H3,he,hM,tg,uc,dA,vj⟩=>⟨v,t,g3,H3,he,hM,sk.trans tg,uc,dA,th.trans vj⟩⟩
 | @vw f as Bz H Q hl SY _ ih =>
  intro w0 g w args ck sr hv
  exact ih w0 g w args ck sr ⟨hl.trans hv.1,fun j t v ha fC=>by
   have au:=(List.getElem?_eq_some_iff.1 ha).1
   exact(SY j _ t (List.getElem?_eq_getElem (by omega)) ha).ok sr v (hv.2 j _ v (List.getElem?_eq_getElem (by omega)) fC)⟩
 | @lA f as H Q h =>
  intro w0 g w args ck sr hv
  exact hE.lA f as H _ h w0 g w args sr hv
inductive Sh where
 | int (k:IntKind)|str|bool
 | sl (l:List Sh)
 | ag (l:List Sh)
def xm (P:Program)(f:TypeId→Option (List Sh)):List Field→Nat→Option (List Sh)
 | [],_=>some []
 | x :: xs,off=>match f x.type with
  | some l=>if x.offset=off∧l.length=P.cellsOf x.type then(xm P f xs (off+l.length)).map (l++·)else none
  | none=>none
def vt (k:Nat)(e:TypeId)(c:Nat):List Field:=(List.range k).map fun i=>{ (default:Field)with type:=e,offset:=i*c }
def oX (P:Program):Nat→TypeId→Option (List Sh)
 | 0,_=>none
 | n+1,t=>match P.underlying t with
  | some .bool=>some [.bool]
  | some (.int k)=>some [.int k]
  | some .string=>some [.str]
  | some (.slice e)=>match oX P n e with
   | some l=>if l.length=P.cellsOf e∧l.length≠0 then some [.sl l]else none
   | none=>none
  | some (.struct fs)=>match xm P (oX P n) fs.toList 0 with
   | some l=>if l.length=P.cellsOf t then some l else none
   | none=>none
  | some (.array k e)=>match xm P (oX P n) (vt k e (P.cellsOf e)) 0 with
   | some l=>if l.length=P.cellsOf t then some l else none
   | none=>none
  | _=>none
inductive dm (B:Nat):Sh→T→Prop
 | int {k n} (h:(Lit.int k n).wf=true):dm B (.int k) (.int k n)
 | bool (b):dm B .bool (.bool b)
 | str {s:ByteArray} (h:s.size≤maxLen) (hB:s.size≤B):dm B .str (.str s)
 | nil {l}:dm B (.sl l) (.sl .nil [])
 | sl {l es} (hl:es.length≤maxLen) (hB:es.length≤B) (h0:∀c∈es,c.length=l.length) (h:∀c∈es,∀(j:Nat) (s:Sh) (t:T),l[j]?=some s→c[j]?=some t→dm B s t):dm B (.sl l) (.sl .arg es)
 | ag {l cs} (hl:cs.length=l.length) (h:∀(j:Nat) (s:Sh) (t:T),l[j]?=some s→cs[j]?=some t→dm B s t):dm B (.ag l) (.agg cs)
mutual
def T.bk:T→Nat
 | .str s=>s.size+1
 | .sl _ es=>IP es+1
 | _=>1
def oK:List T→Nat
 | []=>0
 | t :: ts=>t.bk+oK ts
def IP:List (List T)→Nat
 | []=>0
 | c :: es=>oK c+IP es
end
theorem C6 (a b:List T):oK (a++b)=oK a+oK b:=by
 induction a with
 | nil=>simp[oK]
 | cons t a ih=>simp only[List.cons_append,oK,ih];omega
mutual
def bl {H:Type}:DataW H→Nat
 | .lit (.string bytes)=>bytes.length+1
 | .lit _=>1
 | .nil=>1
 | .ptr d=>bl d+1
 | .slice elems spare=>a7 elems+a7 spare+1
 | .agg parts=>a7 parts+1
 | .iface _ d=>bl d+1
 | .map entries=>dL entries+1
 | .held _=>1
def a7 {H:Type}:List (DataW H)→Nat
 | []=>0
 | d :: r=>bl d+a7 r
def dL {H:Type}:List (Lit×DataW H)→Nat
 | []=>0
 | x :: r=>kd x+dL r
def kd {H:Type}:Lit×DataW H→Nat
 | (.string bytes,d)=>bytes.length+bl d+1
 | (_,d)=>bl d+1
end
theorem iT {H:Type}(d:DataW H):1≤bl d:=by
 cases d with
 | lit l=>cases l<;>simp[bl]
 | _=>simp[bl]
theorem lP {H:Type}{d:DataW H}{l:List (DataW H)}(h:d∈l):bl d≤a7 l:=by
 induction l with
 | nil=>cases h
 | cons x r ih =>
  simp only[a7]
  rcases List.mem_cons.1 h with rfl|h
  ·omega
  ·have:=ih h;omega
theorem zj {H:Type}:∀(es:List (List T)) (ds:List (DataW H)),es.length≤ds.length→(∀(i:Nat) c d,es[i]?=some c→ds[i]?=some d→oK c≤bl d)→IP es≤a7 ds
 | [],_,_,_=>by simp[IP]
 | c :: es,[],h,_=>by simp at h
 | c :: es,d :: ds,h,hk=>by
  have h1:=hk 0 c d rfl rfl
  have h2:=zj es ds (by simpa using h) fun i c d a b=>hk (i+1) c d (by simpa using a) (by simpa using b)
  simp only[IP,a7];omega
theorem zk {H:Type}(l:List (DataW H)):l.length≤a7 l:=by
 induction l with
 | nil=>simp
 | cons x r ih=>have:=iT x;simp only[a7,List.length_cons];omega
def g0 (P:Program)(W:World):Ctx:=⟨fun _=>none,fun r _=>if r<W.heap.size then .gI else .free,fun _ _=>none,fun n c k=>∃an,aV P n an false k=some c⟩
theorem SZ (P:Program)(W:World):SR W (g0 P W) [] W where
 size:=Nat.le_refl _
 gM _ _:=rfl
 wH r o h:=by simp[g0,h]
 fresh r o h:=by simp only[g0];rw[if_neg (by omega)]
 ni b x h:=by simp[g0]at h
 fe t e x h:=by simp[g0]at h
 cu b x h:=by simp at h
 ng r j h:=bR h
 env:=⟨rfl,rfl⟩
theorem S0 (P:Program)(W:World):dU P (g0 P W):=fun _ _ _=>Iff.rfl
theorem vu {α:Type}{Q:Nat→α→Prop}:∀(n:Nat),(∀i,i<n→∃c,Q i c)→∃l:List α,l.length=n∧∀(i:Nat) (c:α),l[i]?=some c→Q i c
 | 0,_=>⟨[],rfl,by simp⟩
 | n+1,h=>by
  obtain⟨l,hl,hq⟩:=vu n fun i hi=>h i (by omega)
  obtain⟨c,hc⟩:=h n (by omega)
  refine⟨l++[c],by simp[hl],fun i d hd=>?_⟩
  by_cases hi:i<n
  ·rw[List.getElem?_append_left (by omega)]at hd;exact hq i d hd
  ·rw[List.getElem?_append_right (by omega)]at hd
   have:i=n:=by
    have:=(List.getElem?_eq_some_iff.1 hd).1;simp at this;omega
   subst this;simp[hl]at hd;subst hd;exact hc
section
variable {H:Type} {enc:TypeId×Value→H} {P:Program} {W:World} {held:Bool} {B:Nat}
theorem sy {a:Addr}{n:Nat}{cs:List Value}(h:W.cells? 0 a n=some cs):cs.length=n∧∀(j:Nat) (v:Value),cs[j]?=some v→W.cell? (a.add j)=some v:=by
 unfold World.cells? at h
 rw[if_pos (Nat.zero_le _)]at h
 have key:∀(n:Nat) (cs:List Value),(List.range n).mapM (fun i=>W.cell? (a.add i))=some cs→cs.length=n∧∀(j:Nat) (v:Value),cs[j]?=some v→W.cell? (a.add j)=some v:=by
  intro n
  induction n with
  | zero=>intro cs h;simp at h;subst h;simp
  | succ n ih =>
   intro cs h
   rw[List.range_succ,List.mapM_append]at h
   cases h1:(List.range n).mapM (fun i=>W.cell? (a.add i))with
   | none=>simp[h1]at h
   | some l =>
    cases h2:W.cell? (a.add n)with
    | none=>simp[h1,h2]at h
    | some v =>
     simp[h1,h2]at h
     subst h
     obtain⟨k1,k2⟩:=ih l h1
     refine⟨by simp[k1],fun j u hj=>?_⟩
     by_cases w7:j<n
     ·rw[List.getElem?_append_left (by omega)]at hj;exact k2 j u hj
     ·rw[List.getElem?_append_right (by omega)]at hj
      have:j=n:=by
       have:=(List.getElem?_eq_some_iff.1 hj).1;simp at this;omega
      subst this;simp[k1]at hj;subst hj;exact h2
 exact key n cs h
def Reads (enc:TypeId×Value→H)(P:Program)(W:World)(held:Bool)(B:Nat)(t:TypeId)(l:List Sh):Prop :=
 ∀fuel cs d ps,DataW.trod enc P W 0 (fun _=>true) held fuel t cs=some (d,ps)→bl d≤B→cs.length=l.length∧∃ts:List T,aW (g0 P W) W ts cs∧bL ts∧(∀(j:Nat) (s:Sh) (t:T),l[j]?=some s→ts[j]?=some t→dm B s t)∧oK ts≤bl d
theorem gX {f:TypeId→Option (List Sh)}{n:Nat}{cs:List Value}:∀(fs:List Field) (off:Nat) (l:List Sh) (xs:List (DataW H×List MemPlace)),xm P f fs off=some l→(∀x∈fs,∀l',f x.type=some l'→Reads enc P W held B x.type l') →
  xs.length=fs.length→(∀(i:Nat) (x:Field),fs[i]?=some x→DataW.trod enc P W 0 (fun _=>true) held n x.type ((cs.drop x.offset).take (P.cellsOf x.type))=xs[i]?)→(∀x∈xs,bl x.1≤B)→off+l.length≤cs.length →
  ∃ts:List T,aW (g0 P W) W ts ((cs.drop off).take l.length)∧bL ts∧(∀(j:Nat) (s:Sh) (t:T),l[j]?=some s→ts[j]?=some t→dm B s t)∧oK ts≤a7 (xs.map (·.1))
 | [],off,l,xs,h,_,_,_,_,_=>by
  simp only[xm,Option.some.injEq]at h;subst h
  exact⟨[],by simpa using aW.nil,by simp[bL],by simp,by simp[oK]⟩
 | x :: fs,off,l,xs,h,hr,hl,ht,hb,hle=>by
  simp only[xm]at h
  split at h
  ·rename_i l1 h1
   split at h
   ·rename_i hc
    simp only[Option.map_eq_some_iff]at h
    obtain⟨l2,h2,rfl⟩:=h
    cases xs with
    | nil=>simp at hl
    | cons y xs =>
     have t0:=ht 0 x rfl
     simp only[List.getElem?_cons_zero]at t0
     obtain⟨d,ps⟩:=y
     obtain⟨a1,FY,a2,a3,a4,a5⟩:=hr x (by simp) l1 h1 n _ d ps t0 (hb (d,ps) (by simp))
     obtain⟨IQ,b2,b3,b4,b5⟩:=gX fs (off+l1.length) l2 xs h2 (fun z hz=>hr z (by simp[hz])) (by simpa using hl) (fun i z hz=>by have:=ht (i+1) z (by simpa using hz);simpa using this) (fun z hz=>hb z (by simp[hz])) (by simp at hle;omega)
     have e1:(cs.drop off).take (l1++l2).length=(cs.drop x.offset).take (P.cellsOf x.type)++(cs.drop (off+l1.length)).take l2.length:=by
      rw[hc.1,←hc.2,List.length_append,List.take_add,List.drop_drop]
     have J0:FY.length=l1.length:=by rw[a2.1,a1]
     refine⟨FY++IQ,by rw[e1];exact a2.append b2,fun t ht=>?_,fun j s t hs ht=>?_,by rw[C6];simp only[List.map_cons,a7];omega⟩
     ·rcases List.mem_append.1 ht with h|h
      ·exact a3 t h
      ·exact b3 t h
     ·by_cases hj:j<l1.length
      ·rw[List.getElem?_append_left hj]at hs
       rw[List.getElem?_append_left (by omega)]at ht
       exact a4 j s t hs ht
      ·rw[List.getElem?_append_right (by omega)]at hs
       rw[List.getElem?_append_right (by omega),J0]at ht
       exact b4 _ s t hs ht
   ·cases h
  ·cases h
theorem FZ {r o:Nat}{v:Value}(h:W.cell? ⟨r,o,none⟩=some v):tt (g0 P W) W r o v:=⟨by simp[g0,gN h],h⟩
theorem reads:∀(n:Nat) (t:TypeId) (l:List Sh),oX P n t=some l→Reads enc P W held B t l
 | 0,_,_,h=>by simp[oX]at h
 | n+1,t,l,h=>by
  intro fuel cs d ps hd hb
  simp only[oX]at h
  split at h
  ·rename_i hu;cases h
   obtain⟨b,rfl,hx⟩:=DataW.trod_bool hu hd
   exact⟨rfl,[.bool b],aW.cons (.bool b) aW.nil,by simp[bL,T.one],fun j s t hs ht=>by cases j with
    | zero=>simp at hs ht;subst hs;subst ht;exact .bool b
    | succ j=>simp at hs,by have:=iT d;simp only[oK,T.bk];omega⟩
  ·rename_i k hu;cases h
   obtain⟨m,rfl,hx,hw⟩:=DataW.trod_int hu hd
   exact⟨rfl,[.int k m],aW.cons (.int k m) aW.nil,by simp[bL,T.one],fun j s t hs ht=>by cases j with
    | zero=>simp at hs ht;subst hs;subst ht;exact .int hw
    | succ j=>simp at hs,by have:=iT d;simp only[oK,T.bk];omega⟩
  ·rename_i hu;cases h
   obtain⟨s,rfl,hx,hw⟩:=DataW.trod_string hu hd
   cases hx
   exact⟨rfl,[.str s],aW.cons (.str s) aW.nil,by simp[bL,T.one],fun j s' t hs ht=>by cases j with
    | zero=>simp at hs ht;subst hs;subst ht;exact .str hw (by simp[bl]at hb;have:s.data.size=s.size:=rfl;omega)
    | succ j=>simp at hs,by simp only[oK,T.bk,bl];have:s.data.size=s.size:=rfl;simp⟩
  ·rename_i e hu
   split at h
   ·rename_i le he
    split at h
    ·rename_i hc
     cases h
     have ih:=reads n e le he
     rcases DataW.trod_slice hu hd with⟨rfl,hx⟩|⟨a,len,cap,elems,rest,m,_,rfl,hx,_,h1,h2,h3,h4,h5,_⟩
     ·exact⟨rfl,[.sl .nil []],aW.cons .slnil aW.nil,by simp[bL,T.one],fun j s t hs ht=>by cases j with
       | zero=>simp at hs ht;subst hs;subst ht;exact .nil
       | succ j=>simp at hs,by have:=iT d;simp only[oK,T.bk,IP];omega⟩
     ·cases hx
      have J1:∀x∈elems,bl x.1≤B:=fun x hx=>by
       have:=lP (List.mem_map_of_mem (f:=(·.1)) hx);simp only[bl]at hb;omega
      have VG:len≤B:=by
       have:=zk (elems.map (·.1));simp only[bl]at hb;simp at this;omega
      have FB:∀i,i<len→∃c:List T,c.length=le.length∧∃us,W.cells? 0 (a.add (i*P.cellsOf e)) (P.cellsOf e)=some us∧aW (g0 P W) W c us∧bL c∧(∀(j:Nat) (s:Sh) (t:T),le[j]?=some s→c[j]?=some t→dm B s t)∧∀d,(elems.map (·.1))[i]?=some d→oK c≤bl d:=by
       intro i hi
       have hk:=h4 i hi
       have jy:i<elems.length:=by omega
       rw[List.getElem?_eq_getElem jy]at hk
       obtain⟨us,k1,k2⟩:=Option.bind_eq_some_iff.1 hk
       obtain⟨q1,ts,q2,q3,q4,q5⟩:=ih m us elems[i].1 elems[i].2 k2 (J1 _ (List.getElem_mem jy))
       exact⟨ts,by rw[q2.1,q1],us,k1,q2,q3,q4,fun d hd=>by rw[List.getElem?_map,List.getElem?_eq_getElem jy]at hd;simp only[Option.map_some,Option.some.injEq]at hd;subst hd;exact q5⟩
      obtain⟨es,Q2,J2⟩:=vu len FB
      have Eh:dm B (.sl le) (.sl .arg es):=.sl (by omega) (by omega) (fun c hc=>by
       obtain⟨i,hi,rfl⟩:=List.getElem_of_mem hc
       exact(J2 i _ (List.getElem?_eq_getElem hi)).1) (fun c hc=>by
       obtain⟨i,hi,rfl⟩:=List.getElem_of_mem hc
       obtain⟨_,_,_,_,_,q,_⟩:=J2 i _ (List.getElem?_eq_getElem hi)
       exact q)
      have dA:VR (g0 P W) W (.sl .arg es) (.slice (some a) len cap):=by
       by_cases iD:cap=0
       ·have:len=0:=by omega
        subst this;subst iD
        have:es=[]:=List.eq_nil_of_length_eq_zero Q2
        subst this;exact .fT _
       ·have Ei:a.spot=none:=by
         have iL:∃us,W.cells? 0 (a.add (0*P.cellsOf e)) (P.cellsOf e)=some us:=by
          by_cases hl:0<len
          ·obtain⟨_,_,us,k,_⟩:=FB 0 hl;exact⟨us,k⟩
          ·have h0:len=0:=by omega
           obtain⟨k1,k2⟩:=h5 rfl
           have:=k2 0 (by omega)
           have hr:0<rest.length:=by omega
           rw[List.getElem?_eq_getElem hr,h0]at this
           obtain⟨us,k3,_⟩:=Option.bind_eq_some_iff.1 this
           exact⟨us,by simpa using k3⟩
         obtain⟨us,S4⟩:=iL
         obtain⟨k1,k2⟩:=sy S4
         have Fz:0<us.length:=by omega
         have mM:=k2 0 us[0] (List.getElem?_eq_getElem Fz)
         unfold World.cell? at mM
         split at mM
         ·split at mM
          ·cases mM
          ·rename_i uS;simpa[Addr.add]using uS
         ·cases mM
        obtain⟨r,o,sp⟩:=a
        simp only at Ei;subst Ei
        rw[←Q2]
        have hn:∀c∈es,c.length=le.length:=fun c hc=>by
         obtain⟨i,hi,rfl⟩:=List.getElem_of_mem hc
         exact(J2 i _ (List.getElem?_eq_getElem hi)).1
        have iL:∀(i j:Nat) (c:List T) (t:T),es[i]?=some c→c[j]?=some t→∃v,W.cell? ⟨r,o+i*le.length+j,none⟩=some v∧VR (g0 P W) W t v∧t.one=true:=by
         intro i j c t hi hj
         obtain⟨q1,us,q2,q3,q4,_⟩:=J2 i c hi
         obtain⟨k1,k2⟩:=sy q2
         have Q3:j<us.length:=by rw[←q3.1];exact(List.getElem?_eq_some_iff.1 hj).1
         refine⟨us[j],?_,q3.2 j t _ hj (List.getElem?_eq_getElem Q3),q4 t (List.mem_of_getElem? hj)⟩
         have:=k2 j us[j] (List.getElem?_eq_getElem Q3)
         rw[←hc.1,b7,b7]at this
         exact this
        refine .sl (n:=le.length) (fun i j=>(W.cell? ⟨r,o+i*le.length+j,none⟩).getD undef) trivial (by omega) hn (fun i j c t hi hj=>?_) (fun i j c t hi hj=>?_)
        ·obtain⟨v,q1,q2,q3⟩:=iL i j c t hi hj
         exact⟨q3,by rw[q1];exact FZ q1⟩
        ·obtain⟨v,q1,q2,q3⟩:=iL i j c t hi hj
         rw[q1];exact q2
      exact⟨rfl,[.sl .arg es],aW.cons dA aW.nil,by simp[bL,T.one],fun j s t hs ht=>by cases j with
       | zero=>simp at hs ht;subst hs;subst ht;exact Eh
       | succ j=>simp at hs,by
       have Q4:=zj es (elems.map (·.1)) (by simp;omega) fun i c d hc hd=>by
        obtain⟨_,_,_,_,_,_,q⟩:=J2 i c hc
        exact q d hd
       simp only[oK,T.bk,bl];omega⟩
    ·cases h
   ·cases h
  ·rename_i fs hu
   split at h
   ·rename_i l' IS
    split at h
    ·rename_i hc
     cases h
     obtain⟨xs,m,_,hx,k1,k2,k3⟩:=DataW.trod_struct hu hd
     cases hx
     have J1:∀x∈xs,bl x.1≤B:=fun x hx=>by
      have:=lP (List.mem_map_of_mem (f:=(·.1)) hx);simp only[bl]at hb;omega
     obtain⟨ts,a1,a2,a3,a4⟩:=gX (n:=m) (cs:=cs) fs.toList 0 l xs IS (fun x _ l2 h2=>reads n x.type l2 h2) (by simpa using k2) (fun i x hi=>k3 i x (by simpa using hi)) J1 (by omega)
     have e1:(cs.drop 0).take l.length=cs:=by rw[List.drop_zero,hc,←k1];simp
     rw[e1]at a1
     exact⟨by omega,ts,a1,a2,a3,by simp only[bl];omega⟩
    ·cases h
   ·cases h
  ·rename_i k e hu
   split at h
   ·rename_i l' IS
    split at h
    ·rename_i hc
     cases h
     obtain⟨xs,m,_,hx,k1,k2,k3⟩:=DataW.trod_array hu hd
     cases hx
     have J1:∀x∈xs,bl x.1≤B:=fun x hx=>by
      have:=lP (List.mem_map_of_mem (f:=(·.1)) hx);simp only[bl]at hb;omega
     obtain⟨ts,a1,a2,a3,a4⟩:=gX (n:=m) (cs:=cs) (vt k e (P.cellsOf e)) 0 l xs IS (fun x hx l2 h2=>by
      obtain⟨i,_,rfl⟩:=List.mem_map.1 hx;exact reads n e l2 h2) (by rw[k2];simp[vt]) (fun i x hi=>by
      simp only[vt,List.getElem?_map,Option.map_eq_some_iff]at hi
      obtain⟨j,hj,rfl⟩:=hi
      obtain⟨h1,h2⟩:=List.getElem?_eq_some_iff.1 hj
      rw[List.getElem_range]at h2
      subst h2
      exact k3 i (by simpa using h1)) J1 (by omega)
     have e1:(cs.drop 0).take l.length=cs:=by rw[List.drop_zero,hc,←k1];simp
     rw[e1]at a1
     exact⟨by omega,ts,a1,a2,a3,by simp only[bl];omega⟩
    ·cases h
   ·cases h
  ·cases h
def zl (P:Program)(t:TypeId):Option Sh:=match P.underlying t with
 | some .bool|some (.int _)|some .string|some (.slice _)=>match oX P 9 t with
  | some [s]=>some s
  | _=>none
 | some (.struct _)|some (.array _ _)=>match oX P 9 t with
  | some l=>some (.ag l)
  | none=>none
 | _=>none
def lQ (P:Program):List TypeId→Option (List Sh)
 | []=>some []
 | t :: ts=>match zl P t,lQ P ts with
  | some s,some l=>some (s :: l)
  | _,_=>none
inductive ke (B:Nat):List Sh→List T→Prop
 | nil:ke B [] []
 | cons {s t ss ts} (h:dm B s t) (hs:ke B ss ts):ke B (s :: ss) (t :: ts)
theorem zm {base:Nat}{t:TypeId}{s:Sh}{v:Value}{d:DataW H}{p:List MemPlace}(h:zl P t=some s)(hv:Value.okWide P W .any base t v)(hf:DataW.Trod enc P W 0 (fun _=>true) held t v d p)(hB:bl d≤B) :
  ∃u:T,VR (g0 P W) W u v∧dm B s u∧u.bk≤bl d:=by
 obtain⟨fuel,hf⟩:=hf
 have one:(∀cs,v≠.agg cs)→v.cells.toList=[v]:=by
  intro h;cases v<;>first|rfl|exact absurd rfl (h _)
 have sc:v.cells.toList=[v]→(match oX P 9 t with|some [s]=>some s|_=>none)=some s→∃u:T,VR (g0 P W) W u v∧dm B s u∧u.bk≤bl d:=by
  intro NR h
  split at h
  ·rename_i s' h3
   cases h
   obtain⟨c1,us,c2,c3,c4,c5⟩:=reads (B:=B) 9 t [s] h3 fuel _ d p hf hB
   rw[NR]at c2
   have Q5:us.length=1:=by have:=c2.1;simpa using this
   obtain⟨u,rfl⟩:∃u,us=[u]:=by
    cases us with
    | nil=>simp at Q5
    | cons u S5=>cases S5 with
     | nil=>exact⟨u,rfl⟩
     | cons _ _=>simp at Q5
   exact⟨u,c2.head,c4 0 s u rfl rfl,by simp only[oK]at c5;omega⟩
  ·cases h
 have ag:(∃cs,v=.agg cs)→(match oX P 9 t with|some l=>some (Sh.ag l)|none=>none)=some s→∃u:T,VR (g0 P W) W u v∧dm B s u∧u.bk≤bl d:=by
  rintro⟨cs,rfl⟩ h
  split at h
  ·rename_i l h3
   cases h
   obtain⟨c1,us,c2,c3,c4,c5⟩:=reads (B:=B) 9 t l h3 fuel _ d p hf hB
   have hc:(Value.agg cs).cells.toList=cs.toList:=rfl
   rw[hc]at c1 c2
   refine⟨.agg us,.agg (by have:=c2.1;simpa using this.symm) c3 (fun i t v a b=>c2.2 i t v a (by simpa using b)),.ag (by rw[c2.1,c1]) c4,by have:=iT d;simp only[T.bk];omega⟩
  ·cases h
 simp only[zl]at h
 split at h
 ·rename_i hu
  exact sc (one (by rintro cs rfl;simp[Value.okWide,hu,Cell.okWide,Cell.ok]at hv)) h
 ·rename_i hu
  exact sc (one (by rintro cs rfl;simp[Value.okWide,hu,Cell.okWide,Cell.ok]at hv)) h
 ·rename_i hu
  exact sc (one (by rintro cs rfl;simp[Value.okWide,hu,Cell.okWide,Cell.ok]at hv)) h
 ·rename_i hu
  exact sc (one (by rintro cs rfl;simp[Value.okWide,hu,Cell.okWide,Cell.ok]at hv)) h
 ·rename_i hu
  exact ag (by cases v<;>first|exact⟨_,rfl⟩|simp[Value.okWide,hu]at hv) h
 ·rename_i hu
  exact ag (by cases v<;>first|exact⟨_,rfl⟩|simp[Value.okWide,hu]at hv) h
 ·cases h
theorem pF {base:Nat}:∀(ts:List TypeId) (xY:List Sh) (args:List Value) (ds:List (DataW H)) (p:List MemPlace),lQ P ts=some xY→(∀(j:Nat) t v,ts[j]?=some t→args[j]?=some v→Value.okWide P W .any base t v) →
  DataW.TrodAll enc P W 0 (fun _=>true) held ts args ds p→a7 ds≤B→∃as:List T,aW (g0 P W) W as args∧ke B xY as∧oK as≤a7 ds
 | [],xY,args,ds,p,h,_,hA,_=>by
  cases args<;>cases ds<;>simp[DataW.TrodAll]at hA
  simp only[lQ,Option.some.injEq]at h;subst h
  exact⟨[],aW.nil,.nil,by simp[oK]⟩
 | t :: ts,xY,args,ds,p,h,sz,hA,hB=>by
  cases args with
  | nil=>cases ds<;>simp[DataW.TrodAll]at hA
  | cons v args =>
   cases ds with
   | nil=>simp[DataW.TrodAll]at hA
   | cons d ds =>
    obtain⟨p,q,hf,h2,_⟩:=hA
    simp only[lQ]at h
    split at h
    ·rename_i s l h3 h4
     cases h
     simp only[a7]at hB
     obtain⟨as,b1,b2,b3⟩:=pF ts l args ds q h4 (fun j t v a b=>sz (j+1) t v (by simpa using a) (by simpa using b)) h2 (by omega)
     obtain⟨u,c1,c2,c3⟩:=zm (B:=B) (base:=base) (d:=d) (p:=p) h3 (sz 0 t v rfl rfl) hf (by omega)
     refine⟨u :: as,aW.cons c1 b1,.cons c2 b2,?_⟩
     show T.bk u+oK as≤bl d+a7 ds
     omega
    ·cases h
end
end Go.Rmp
end

section
namespace Go.Rmp
open Go.ChangeShapes Go.RowKit
section
variable {H:Type} {enc:TypeId×Value→H} {P:Program} {W W':World}
theorem jP {sp:Nat→Bool}{held:Bool}:∀(ts:List TypeId) (vs:List Value) (ds:List (DataW H)) (ps:List MemPlace),DataW.TrodAll enc P W 0 sp held ts vs ds ps→(∀p∈ps,W.sameAt W' p)→DataW.TrodAll enc P W' 0 sp held ts vs ds ps
 | [],[],[],_,h,_=>h
 | t :: ts,v :: vs,d :: ds,ps,⟨p,q,⟨n,hn⟩,h2,e⟩,hs=>⟨p,q,⟨n,DataW.trod_carry n t _ _ hn (fun x hx=>hs x (by rw[e];exact List.mem_append_left _ hx))⟩,jP ts vs ds q h2 (fun x hx=>hs x (by rw[e];exact List.mem_append_right _ hx)),e⟩
 | [],_ :: _,_,_,h,_=>h.elim
 | [],[],_ :: _,_,h,_=>h.elim
 | _ :: _,[],_,_,h,_=>h.elim
 | _ :: _,_ :: _,[],_,h,_=>h.elim
theorem zn {g:Ctx}{Hh:ae}(h:SR W g Hh W'):Grown W W':=by
 refine⟨⟨h.env.1,h.env.2,fun i hi=>?_⟩,fun a=>?_,h.size⟩
 ·rw[h.gM i hi]
  have:=World.keptBut_refl W (fun _=>False)
  exact this.2.2 i hi
 ·by_cases ha:a.block<W.heap.size
  ·unfold World.frozen?;rw[h.gM _ ha]
  ·have h1:=h.ng a.block a.off (by omega)
   have h2:=bR (w:=W) (r:=a.block) (j:=a.off) (by omega)
   exact h1.trans h2.symm
theorem xn {E:Env}(hE:r7 P E){f:FuncId}{as:List T}{args:List Value}(hv:aW (g0 P W) W as args)(hW:Go.Rmp.W E (.call f as) [] (fun o _=>o=.val (.bool true))) :
  Calls P f args.toArray W fun e W'=>e=.returned (.bool true)∧Grown W W'∧∀r,r<W.heap.size→W'.heap[r]?=W.heap[r]?:=by
 obtain⟨_,hc⟩:=Go.Rmp.W.SS hE hW W (g0 P W) W args (S0 P W) (SZ P W) hv
 refine(callsIn_wide.1 hc).mono fun e W' ⟨v,t,g',H',he,hq,_,sr,dA,_⟩=>?_
 cases hq
 cases dA
 exact⟨he,zn sr,sr.gM⟩
theorem oY {E:Env}(hE:r7 P E){f:FuncId}{fn:Func}{s:ChangeSpec}{xY:List Sh}{B:Nat}{tb:TypeId}(K:Kids P (·<P.types.size))(hz:∀t e,t<P.types.size→P.underlying t=some (.slice e)→0<P.cellsOf e)
  (Eh:lQ P fn.params.toList=some xY) (au:∀t∈fn.params.toList,t<P.types.size) (Mj:fn.resultTypes=#[tb]) (Ml:P.underlying tb=some .bool) (vz:s.vars=[])
  (rp:∀ds:List (DataW H),ds.length=fn.params.toList.length→s.fn H ds={ results:=[.lit (.bool true)],args:=ds })
  (F1:∀as:List T,ke B xY as→oK as≤B→Go.Rmp.W E (.call f as) [] (fun o _=>o=.val (.bool true)))
  (base:Nat) (args:Array Value) (ds gs:List (DataW H)) (before:List MemPlace)
  (sz:∀(j:Nat) t v,fn.params[j]?=some t→args[j]?=some v→Value.okWide P W .any base t v)
  (hW:DataW.Whole enc P fn.params.toList s.vars false W args.toList ds gs before) (hB:a7 (ds++gs)≤B) :
  Calls P f args W fun e W'=>∃v,e=.returned v∧s.post enc P fn false true false false W args v W':=by
 have Q6:=hW
 obtain⟨p,q,hA,hV,Jz,NS,jj⟩:=hW
 rw[vz]at hV
 obtain⟨rfl,rfl⟩:gs=[]∧q=[]:=by
  cases gs with
  | nil=>exact⟨rfl,hV⟩
  | cons _ _=>exact hV.elim
 simp only[List.append_nil]at Jz hB
 subst Jz
 obtain⟨as,gP,S6,Q4⟩:=pF fn.params.toList xY args.toList ds before Eh (fun j t v a b=>sz j t v (by simpa using a) (by simpa using b)) hA hB
 have hc:=xn hE gP (F1 as S6 (Nat.le_trans Q4 hB))
 rw[Array.toArray_toList]at hc
 refine hc.mono fun e W' ⟨he,hg,hold⟩=>⟨_,he,?_⟩
 have hlen:ds.length=fn.params.toList.length:=(trodAll_length hA).2
 have F3:=rp ds hlen
 refine post_of_same (pa:=before) (pv:=[]) Q6 (fun b sp hd=>?_) (fun sp uS=>?_) (fun sp _=>?_) (by simp) (hg.frame _) hg.2.1 (fun j t r hj hr=>?_)
 ·rw[List.append_nil,F3,Mj]
  simp only[Value.resultList]
  exact trodAll_mk1 (shut_bool Ml _)
 ·rw[List.append_nil,F3]
  refine DataW.TrodAll.respare K hz au (jP _ _ _ _ hA fun x hx=>?_) uS
  have hb:=Q6.lt x hx
  cases x with
  | cell b o=>simp only[World.sameAt,World.cell?];rw[hold b hb]
  | map b=>exact hold b hb
 ·rw[List.append_nil,F3,vz];rfl
 ·rw[Mj]at hj hr
  cases j with
  | zero=>simp[Value.resultList]at hj hr;subst hj;subst hr;exact okWide_bool_mk Ml _
  | succ j=>simp at hj
theorem qx {E:Env}(hE:r7 P E){f:FuncId}{fn:Func}{s:ChangeSpec}{xY:List Sh}{B:Nat}{tb:TypeId}(K:Kids P (·<P.types.size))(hz:∀t e,t<P.types.size→P.underlying t=some (.slice e)→0<P.cellsOf e)
  (Eh:lQ P fn.params.toList=some xY) (au:∀t∈fn.params.toList,t<P.types.size) (Mj:fn.resultTypes=#[tb]) (Ml:P.underlying tb=some .bool) (vz:s.vars=[])
  (rp:∀ds:List (DataW H),ds.length=fn.params.toList.length→s.fn H ds={ results:=[.lit (.bool true)],args:=ds })
  (F1:∀as:List T,ke B xY as→Go.Rmp.W E (.call f as) [] (fun o _=>o=.val (.bool true)))
  (base:Nat) (args:Array Value) (ds gs:List (DataW H)) (before:List MemPlace)
  (sz:∀(j:Nat) t v,fn.params[j]?=some t→args[j]?=some v→Value.okWide P W .any base t v)
  (hW:DataW.Whole enc P fn.params.toList s.vars false W args.toList ds gs before) (hB:a7 (ds++gs)≤B) :
  Calls P f args W fun e W'=>∃v,e=.returned v∧s.post enc P fn false true false false W args v W' :=
 oY hE K hz Eh au Mj Ml vz rp (fun as h _=>F1 as h) base args ds gs before sz hW hB
end
end Go.Rmp
end

section
namespace Go.Rmp
def n5 (R:aj)(H:ae):List Rd→Prop
 | []=>True
 | r :: l=>(aS R r.g=true→ai R H r.op=some (R r.d,H))∧n5 R H l
theorem iU {R:aj}{H:ae}:∀(l:List Rd),n5 R H l→gb R H l
 | [],_=>fun r h=>by cases h
 | x :: l,h=>fun r hr=>by
  rcases List.mem_cons.1 hr with rfl|hr
  ·exact h.1
  ·exact iU l h.2 r hr
theorem zo (R:aj)(d:Nat)(v:T):aR R (some d) v=iq R d v:=rfl
theorem zp (R:aj)(v:T):aR R none v=R:=rfl
theorem zq (R:aj)(d:Nat)(v:T)(t:Nat):iq R d v t=if t=d then v else R t:=rfl
theorem vA (a:T)(l:List T):fA (a :: l) 0=a:=rfl
theorem J3 (R:aj)(t:Nat):X.ev R (.r t)=R t:=rfl
theorem J4 (R:aj)(v:T):X.ev R (.c v)=v:=rfl
def zr (R:aj)(g:Gd)(s:List Rd):Bo→Prop
 | .my _ c x y=>g=none∧s=[]∧c=.slice∧x.ev R=.sl .arg []∧y.ev R=.sl .nil []
 | _=>False
structure NT (E:Env)(R:aj)(H:ae)(x:X)(az:List X)(P:ae→Bool→Prop)(b n:Nat)(R0:aj)(ps:List Nat)(bV body:C)(M1 M:Out→ae→Prop):Prop where
 hf:x.ev R=.lz b
 hb:H[b]?=some (.loop .ready none n R0 ps bV body)
 hn:az.length=ps.length
 h1:W E (.code bV (iC R0 ps (az.map (X.ev R)))) H M1
 xU:∀o H',M1 o H'→(∃R1,o=.ex .normal R1)∧H'[b]?=some (.loop .ready none n R0 ps bV body)
 h2:∀R1 H1,M1 (.ex .normal R1) H1→W E (.code body R1) (H1.set b (.loop .busy none n R0 ps bV body)) M
 xV:∀o H',M o H'→H'[b]?=some (.loop .busy none n R0 ps bV body)
 h3:∀R' H',M (.ex .normal R') H'→P (H'.set b (.loop .ready none n R0 ps bV body)) true
 h4:∀e R' H',M (.ex e R') H'→e≠.normal→P (H'.set b (.loop .done (some e) n R0 ps bV body)) false
def zs (R:aj)(H:ae)(b:Bo)(v:T)(H':ae):Prop:=∃n bytes t y bb len cs,b=.app n bytes false (.r t) y∧R t=.aE bb 0 len n∧H[bb]?=some (.cells cs)∧len*n=cs.length∧0<len ∧
 ai (iq R t (.sl (.own H.length len) (fB cs 0 len n))) (H.set bb (.fz cs)++[.tok len]) b=some (v,H')
def eI (E:Env):List O→aj→ae→(aj→ae→Prop)→Prop
 | [],R,H,K=>K R H
 | ⟨d,.b b,g,s⟩ :: l,R,H,K=>match aS R g with
  | false=>eI E l (aR R d bq) H K
  | true=>match ai R H b with
   | some (v,H')=>n5 R H' s∧eI E l (aR R d v) H' K
   | none=>(zr R g s b∧∀t:Bool,eI E l (aR R d (.bool t)) H K) ∨
    (∃x bb bi es ix cur,b=.oE x∧x.ev R=.ptr bi 0∧H[bb]?=some (.da es ix bi cur)∧∀t H',kz H bb bi es ix t H'→n5 R H' s∧eI E l (aR R d t) H' K) ∨
    ∃v H',zs R H b v H'∧n5 R H' s∧eI E l (aR R d v) H' K
 | ⟨d,.call f az,g,s⟩ :: l,R,H,K=>match aS R g with
  | false=>eI E l (aR R d bq) H K
  | true=>∃M:Out→ae→Prop,W E (.call f (az.map (X.ev R))) H M∧∀v H',M (.val v) H'→n5 R H' s∧eI E l (aR R d v) H' K
 | ⟨d,.aX x az,g,s⟩ :: l,R,H,K=>match aS R g with
  | false=>eI E l (aR R d bq) H K
  | true=>(∃(f:Nat) (cs:List T) (M:Out→ae→Prop),x.ev R=.fn f cs∧W E (.call f (az.map (X.ev R)++cs)) H M∧∀v H',M (.val v) H'→n5 R H' s∧eI E l (aR R d v) H' K) ∨
   ∃b n R0 ps bV body M1 M,NT E R H x az (fun H' t=>n5 R H' s∧eI E l (aR R d (.bool t)) H' K) b n R0 ps bV body M1 M
theorem eQ {E:Env}{Q:Out→ae→Prop}:∀(l:List O) (R:aj) (H:ae),eI E l R H (fun R' H'=>Q (.ex .normal R') H')→W E (.ops l R) H Q
 | [],R,H,h=>.nil h
 | ⟨d,.b b,g,s⟩ :: l,R,H,h=>by
  simp only[eI]at h
  split at h
  ·rename_i hw;exact .no hw (eQ l _ _ h)
  ·rename_i hw
   split at h
   ·rename_i v H' he;exact .op hw he (iU _ h.1) (eQ l _ _ h.2)
   ·rcases h with h|⟨x,bb,bi,es,ix,cur,rfl,hx,hb,h⟩|⟨v,H',⟨n,bytes,t,y,bb,len,cs,rfl,ht,hb,hlen,h0,he⟩,h⟩
    ·cases b with
     | my neg c x y =>
      obtain⟨⟨hg,hs,hc,hx,hy⟩,h⟩:=h
      subst hg
      exact .wE hs (fun t=>eQ l _ _ (h t)) hx hy hc
     | _=>exact h.1.elim
    ·exact .oE hw hx hb (fun t H' hm=>iU _ (h t H' hm).1) fun t H' hm=>eQ l _ _ (h t H' hm).2
    ·exact .Iy hw ht hb hlen h0 he (iU _ h.1) (eQ l _ _ h.2)
 | ⟨d,.call f az,g,s⟩ :: l,R,H,h=>by
  simp only[eI]at h
  split at h
  ·rename_i hw;exact .no hw (eQ l _ _ h)
  ·rename_i hw
   obtain⟨M,h1,h2⟩:=h
   exact .call M hw h1 (fun v H' hm=>iU _ (h2 v H' hm).1) (fun v H' hm=>eQ l _ _ (h2 v H' hm).2)
 | ⟨d,.aX x az,g,s⟩ :: l,R,H,h=>by
  simp only[eI]at h
  split at h
  ·rename_i hw;exact .no hw (eQ l _ _ h)
  ·rename_i hw
   rcases h with⟨f,cs,M,hf,h1,h2⟩|⟨b,n,R0,ps,bV,body,M1,M,h⟩
   ·exact .aX M hw hf h1 (fun v H' hm=>iU _ (h2 v H' hm).1) (fun v H' hm=>eQ l _ _ (h2 v H' hm).2)
   ·exact .lz M1 M hw h.hf h.hb h.hn h.h1 h.xU h.h2 h.xV (fun R' H' hm=>iU _ (h.h3 R' H' hm).1) (fun R' H' hm=>eQ l _ _ (h.h3 R' H' hm).2) (fun e R' H' hm he=>iU _ (h.h4 e R' H' hm he).1) (fun e R' H' hm he=>eQ l _ _ (h.h4 e R' H' hm he).2)
def kV (K:aj→ae→Prop)(Q:Out→ae→Prop):Out→ae→Prop
 | .ex .normal R,H=>K R H
 | o,H=>Q o H
def iV (id:Nat)(Q:Out→ae→Prop):Out→ae→Prop
 | .ex (.exit i) R,H=>if i=id then Q (.ex .normal R) H else Q (.ex (.exit i) R) H
 | o,H=>Q o H
def ft (E:Env):C→aj→ae→(Out→ae→Prop)→Prop
 | .skip,R,H,Q=>Q (.ex .normal R) H
 | .ops l,R,H,Q=>eI E l R H fun R' H'=>Q (.ex .normal R') H'
 | .seq a b,R,H,Q=>ft E a R H (kV (fun R' H'=>ft E b R' H' Q) Q)
 | .cond x a b,R,H,Q=>match x.ev R with
  | .bool true=>ft E a R H Q
  | .bool false=>ft E b R H Q
  | _=>False
 | .block id a,R,H,Q=>ft E a R H (iV id Q)
 | .exit id,R,H,Q=>Q (.ex (.exit id) R) H
 | .ret,R,H,Q=>Q (.ex .ret R) H
 | .loop a,R,H,Q=>W E (.code (.loop a) R) H Q
 | .cj n x ps a b,R,H,Q=>W E (.code (.cj n x ps a b) R) H Q
theorem fK {E:Env}:∀(c:C) (R:aj) (H:ae) (Q:Out→ae→Prop),ft E c R H Q→W E (.code c R) H Q
 | .skip,R,H,Q,h=>.skip h
 | .ops l,R,H,Q,h=>.Iw (eQ l R H h)
 | .seq a b,R,H,Q,h=>.seq _ (fK a R H _ h) (fun R' H' hm=>fK b R' H' Q hm) (fun o H' hm hn=>by
  cases o with
  | ex e R'=>cases e with
   | normal=>exact absurd rfl (hn R')
   | exit id=>exact hm
   | ret=>exact hm
  | val v=>exact hm)
 | .cond x a b,R,H,Q,h=>by
  simp only[ft]at h
  split at h
  ·rename_i hx;exact .cond true hx (fK a R H Q h)
  ·rename_i hx;exact .cond false hx (fK b R H Q h)
  ·exact h.elim
 | .block id a,R,H,Q,h=>.block _ (fK a R H _ h) (fun R' H' hm=>by simpa[iV]using hm) (fun o H' hm hn=>by
  cases o with
  | ex e R'=>cases e with
   | normal=>exact hm
   | exit i =>
    simp only[iV]at hm
    split at hm
    ·rename_i e;subst e;exact absurd rfl (hn R')
    ·exact hm
   | ret=>exact hm
  | val v=>exact hm)
 | .exit id,R,H,Q,h=>.exit h
 | .ret,R,H,Q,h=>.ret h
 | .loop a,R,H,Q,h=>h
 | .cj n x ps a b,R,H,Q,h=>h
section
variable (E:Env) (R:aj) (H:ae) (K:aj→ae→Prop) (Q:Out→ae→Prop) (l:List O) (d:Option Nat) (s:List Rd)
def Mm:T→Bool
 | .bool c=>c
 | _=>false
def Mn:T→Bool
 | .bool c=>!c
 | _=>false
def gC (b:Bo)(g:Gd)(e:Option (T×ae)):Prop:=match e with
 | some (v,H')=>n5 R H' s∧eI E l (aR R d v) H' K
 | none=>(zr R g s b∧∀t:Bool,eI E l (aR R d (.bool t)) H K) ∨
  (∃x bb bi es ix cur,b=.oE x∧x.ev R=.ptr bi 0∧H[bb]?=some (.da es ix bi cur)∧∀t H',kz H bb bi es ix t H'→n5 R H' s∧eI E l (aR R d t) H' K) ∨
  ∃v H',zs R H b v H'∧n5 R H' s∧eI E l (aR R d v) H' K
def C7 (b:Bo)(g:Gd)(w:Bool):Prop:=match w with
 | false=>eI E l (aR R d bq) H K
 | true=>gC E R H K l d s b g (ai R H b)
def J5 (v:T)(H':ae):Prop:=n5 R H' s∧eI E l (aR R d v) H' K
def sA (f:Nat)(az:List T):Prop:=∃M:Out→ae→Prop,W E (.call f az) H M∧∀v H',M (.val v) H'→J5 E R K l d s v H'
def C8 (f:Nat)(az:List X)(w:Bool):Prop:=match w with
 | false=>eI E l (aR R d bq) H K
 | true=>sA E R H K l d s f (az.map (X.ev R))
def bK (t:T)(az:List X):Prop:=match t with
 | .fn f cs=>sA E R H K l d s f (az.map (X.ev R)++cs)
 | _=>False
def Ej (R:aj)(H:ae):Prop:=Q (.ex .normal R) H
def Ek (b:C)(R:aj)(H:ae):Prop:=ft E b R H Q
def zt (a b:C)(t:T):Prop:=match t with
 | .bool true=>ft E a R H Q
 | .bool false=>ft E b R H Q
 | _=>False
theorem El:eI E [] R H K=K R H:=rfl
theorem Q7 (b:Bo):eI E (⟨d,.b b,none,s⟩ :: l) R H K=gC E R H K l d s b none (ai R H b):=rfl
theorem Q8 (b:Bo)(g:Nat×Bool):eI E (⟨d,.b b,some g,s⟩ :: l) R H K=C7 E R H K l d s b (some g) (aS R (some g)):=by simp only[eI,C7];rfl
theorem Q9 (f:Nat)(az:List X):eI E (⟨d,.call f az,none,s⟩ :: l) R H K=sA E R H K l d s f (az.map (X.ev R)):=rfl
theorem J6 (f:Nat)(az:List X)(g:Nat×Bool):eI E (⟨d,.call f az,some g,s⟩ :: l) R H K=C8 E R H K l d s f az (aS R (some g)):=by simp only[eI,C8];rfl
theorem Mo {x:X}{az:List X}(h:bK E R H K l d s (x.ev R) az):eI E (⟨d,.aX x az,none,s⟩ :: l) R H K:=by
 unfold bK at h
 split at h
 ·rename_i f cs hx
  obtain⟨M,h1,h2⟩:=h
  exact .inl ⟨f,cs,M,hx,h1,h2⟩
 ·exact h.elim
theorem iW {g:Gd}{x:X}{az:List X}(hg:aS R g=true)(h:bK E R H K l d s (x.ev R) az):eI E (⟨d,.aX x az,g,s⟩ :: l) R H K:=by
 simp only[eI,hg]
 unfold bK at h
 split at h
 ·rename_i f cs hx
  obtain⟨M,h1,h2⟩:=h
  exact .inl ⟨f,cs,M,hx,h1,h2⟩
 ·exact h.elim
theorem J7 {g:Nat×Bool}{x:X}{az:List X}(hg:aS R (some g)=false):eI E (⟨d,.aX x az,some g,s⟩ :: l) R H K=eI E l (aR R d bq) H K:=by
 simp only[eI,hg]
theorem zu (neg:Bool)(c:BO)(x y:X):gC E R H K l d s (.my neg c x y) none none=((s=[]∧c=.slice∧x.ev R=.sl .arg []∧y.ev R=.sl .nil [])∧∀t:Bool,eI E l (aR R d (.bool t)) H K):=by simp only[gC,zr,zs,true_and,reduceCtorEq,false_and,exists_false,or_false]
theorem F5 {x:X}{g:Gd}{bb bi:Nat}{es:List (T×T)}{ix:List Nat}{cur:Option Nat}(hx:x.ev R=.ptr bi 0)(hb:H[bb]?=some (.da es ix bi cur))(h:∀t H',kz H bb bi es ix t H'→n5 R H' s∧eI E l (aR R d t) H' K):gC E R H K l d s (.oE x) g none:=.inr (.inl ⟨x,bb,bi,es,ix,cur,rfl,hx,hb,h⟩)
theorem zw {n bytes t bb len:Nat}{y:X}{g:Gd}{cs:List T}{v:T}{H':ae}(ht:R t=.aE bb 0 len n)(hb:H[bb]?=some (.cells cs))(hlen:len*n=cs.length)(h0:0<len)
  (he:ai (iq R t (.sl (.own H.length len) (fB cs 0 len n))) (H.set bb (.fz cs)++[.tok len]) (.app n bytes false (.r t) y)=some (v,H')) (h:n5 R H' s∧eI E l (aR R d v) H' K):gC E R H K l d s (.app n bytes false (.r t) y) g none :=
 .inr (.inr ⟨v,H',⟨n,bytes,t,y,bb,len,cs,rfl,ht,hb,hlen,h0,he⟩,h⟩)
theorem zx (b:Bo)(g:Gd)(v:T)(H':ae):gC E R H K l d s b g (some (v,H'))=(n5 R H' s∧eI E l (aR R d v) H' K):=rfl
theorem Em (b:Bo)(g:Gd):C7 E R H K l d s b g true=gC E R H K l d s b g (ai R H b):=rfl
theorem En (b:Bo)(g:Gd):C7 E R H K l d s b g false=eI E l (aR R d bq) H K:=rfl
theorem zy (f:Nat)(az:List X):C8 E R H K l d s f az true=sA E R H K l d s f (az.map (X.ev R)):=rfl
theorem zz (f:Nat)(az:List X):C8 E R H K l d s f az false=eI E l (aR R d bq) H K:=rfl
theorem af {f:Nat}{az:List T}(M:Out→ae→Prop)(h1:W E (.call f az) H M)(h2:∀v H',M (.val v) H'→n5 R H' s∧eI E l (aR R d v) H' K):sA E R H K l d s f az:=⟨M,h1,h2⟩
theorem zA:ft E .skip R H Q=Q (.ex .normal R) H:=rfl
theorem Eo:ft E (.ops l) R H Q=eI E l R H (Ej Q):=rfl
theorem vB:Ej Q R H=Q (.ex .normal R) H:=rfl
theorem jQ (a b:C):ft E (.seq a b) R H Q=ft E a R H (kV (Ek E Q b) Q):=rfl
theorem zB (x:X)(a b:C):ft E (.cond x a b) R H Q=zt E R H Q a b (x.ev R):=rfl
theorem qy (id:Nat)(a:C):ft E (.block id a) R H Q=ft E a R H (iV id Q):=rfl
theorem zC (id:Nat):ft E (.exit id) R H Q=Q (.ex (.exit id) R) H:=rfl
theorem Ep:ft E .ret R H Q=Q (.ex .ret R) H:=rfl
theorem zD (a:C):ft E (.loop a) R H Q=W E (.code (.loop a) R) H Q:=rfl
theorem vC (n:Nat)(x:X)(ps:List Nat)(a b:C):ft E (.cj n x ps a b) R H Q=W E (.code (.cj n x ps a b) R) H Q:=rfl
theorem eu (b:C):Ek E Q b R H=ft E b R H Q:=rfl
theorem zE (a b:C):zt E R H Q a b (.bool true)=ft E a R H Q:=rfl
theorem zF (a b:C):zt E R H Q a b (.bool false)=ft E b R H Q:=rfl
theorem gn (R:aj)(H:ae):kV K Q (.ex .normal R) H=K R H:=rfl
theorem zG (R:aj)(H:ae):kV K Q (.ex .ret R) H=Q (.ex .ret R) H:=rfl
theorem zH (id:Nat)(R:aj)(H:ae):kV K Q (.ex (.exit id) R) H=Q (.ex (.exit id) R) H:=rfl
theorem Er (id:Nat)(R:aj)(H:ae):iV id Q (.ex .normal R) H=Q (.ex .normal R) H:=rfl
theorem Es (id:Nat)(R:aj)(H:ae):iV id Q (.ex .ret R) H=Q (.ex .ret R) H:=rfl
theorem Et (id i:Nat)(R:aj)(H:ae):iV id Q (.ex (.exit i) R) H=if i=id then Q (.ex .normal R) H else Q (.ex (.exit i) R) H:=rfl
theorem zI (t:Nat):aS R (some (t,true))=Mm (R t):=by cases h:R t<;>simp[aS,Mm,h]
theorem zJ (t:Nat):aS R (some (t,false))=Mn (R t):=by cases h:R t<;>simp[aS,Mn,h]
theorem Eu (c:Bool):Mm (.bool c)=c:=rfl
theorem Ev:Mm bq=false:=rfl
theorem Ew:Mn bq=false:=rfl
theorem Ey (c:Bool):Mn (.bool c)=!c:=rfl
end
theorem W.cZ {E:Env}{α:Type}{a:C}{R:aj}{H:ae}{Q:Out→ae→Prop}(I:α→aj→ae→Prop)(μ:α→Nat)(x:α)(h0:I x R H)
  (step:∀x R H,I x R H→ft E a R H (kV (fun R' H'=>∃y,μ y<μ x∧I y R' H') Q)):W E (.code (.loop a) R) H Q:=by
 have key:∀(n:Nat) (x:α) (R:aj) (H:ae),μ x=n→I x R H→W E (.code (.loop a) R) H Q:=by
  intro n
  induction n using Nat.strongRecOn with
  | _ n ih =>
   intro x R H hn hI
   refine .loop _ (fK a R H _ (step x R H hI)) (fun R' H' hm=>?_) (fun o H' hm kS=>?_)
   ·obtain⟨y,hy,NU⟩:=hm
    exact ih (μ y) (hn▸hy) y R' H' rfl NU
   ·cases o with
    | ex e R'=>cases e with
     | normal=>exact absurd rfl (kS R')
     | exit id=>exact hm
     | ret=>exact hm
    | val v=>exact hm
 exact key _ x R H rfl h0
def ue (res:List Rs)(Q:Out→ae→Prop):Out→ae→Prop
 | .ex .normal R,H | .ex .ret R,H=>match mA R H res with
  | some v=>Q (.val v) H
  | none=>False
 | _,_=>False
theorem W.cJ {E:Env}{f:Nat}{fn:Fn}{az:List T}{H:ae}{Q:Out→ae→Prop}(hf:E.fn f=some fn)(hr:fn.body.jx=false)(hn:az.length=fn.np)(h:ft E fn.body (fA az) H (ue fn.res Q)):W E (.call f az) H Q:=by
 refine .fn _ hf hr hn (fK _ _ _ _ h) fun o H' hm=>?_
 cases o with
 | ex e R =>
  cases e with
  | normal=>simp only[ue]at hm;split at hm;exact⟨R,.inl rfl,_,by assumption,hm⟩;exact hm.elim
  | exit id=>exact hm.elim
  | ret=>simp only[ue]at hm;split at hm;exact⟨R,.inr rfl,_,by assumption,hm⟩;exact hm.elim
 | val v=>exact hm.elim
def J8 (n:Nat)(res:List Rs)(Q:Out→ae→Prop):Out→ae→Prop
 | .ex .normal R,H | .ex .ret R,H=>∃bs,marks (R n)=some bs∧bs.Nodup∧(∀b∈bs,H[b]?=some .wy)∧match mA R (kill H bs) res with
  | some v=>Q (.val v) (kill H bs)
  | none=>False
 | _,_=>False
theorem W.NV {E:Env}{f:Nat}{fn:Fn}{az:List T}{H:ae}{Q:Out→ae→Prop}(hf:E.fn f=some fn)(hn:az.length=fn.np)(h:ft E fn.body (fA az) H (J8 fn.n fn.res Q)):W E (.call f az) H Q:=by
 refine .Ix _ hf hn (fK _ _ _ _ h) fun o H' hm=>?_
 cases o with
 | ex e R =>
  cases e with
  | normal=>obtain⟨bs,h1,h2,h3,h4⟩:=hm;split at h4;exact⟨R,bs,.inl rfl,h1,h2,h3,_,by assumption,h4⟩;exact h4.elim
  | exit id=>exact hm.elim
  | ret=>obtain⟨bs,h1,h2,h3,h4⟩:=hm;split at h4;exact⟨R,bs,.inr rfl,h1,h2,h3,_,by assumption,h4⟩;exact h4.elim
 | val v=>exact hm.elim
theorem W.F6 {E:Env}{n:Nat}{x:X}{ps:List Nat}{bV body:C}{R:aj}{H:ae}{Q:Out→ae→Prop}{f:Nat}{cs:List T}(hx:x.ev R=.fn f cs)
  (h:W E (.call f (.lz (H.length+1) :: cs)) (H++[.wy,.loop .ready none n R ps bV body]) (fun _ H'=>H'[H.length+1]?=some (.loop .ready none n R ps bV body)∧Q (.ex .normal (iq R n (kx (R n) H.length))) (H'.set (H.length+1) .dead))) :
  W E (.code (.cj n x ps bV body) R) H Q :=
 .cj _ hx h fun _ _ hm=>⟨.ready,none,by simp,by simp,hm.1,hm.2⟩
theorem J9 {E:Env}{R:aj}{H:ae}{K:aj→ae→Prop}{l:List O}{d:Option Nat}{s:List Rd}{x:X}{az:List X}{b n:Nat}{R0:aj}{ps:List Nat}{bV body:C}
  (hf:x.ev R=.lz b) (hb:H[b]?=some (.loop .ready none n R0 ps bV body)) (hn:az.length=ps.length)
  (h:ft E bV (iC R0 ps (az.map (X.ev R))) H (fun o H1=>∃R1,o=.ex .normal R1∧H1[b]?=some (.loop .ready none n R0 ps bV body) ∧
   ft E body R1 (H1.set b (.loop .busy none n R0 ps bV body)) (fun o H2=>∃R2,o=.ex .normal R2∧H2[b]?=some (.loop .busy none n R0 ps bV body) ∧
    n5 R (H2.set b (.loop .ready none n R0 ps bV body)) s∧eI E l (aR R d (.bool true)) (H2.set b (.loop .ready none n R0 ps bV body)) K))) :
  eI E (⟨d,.aX x az,none,s⟩ :: l) R H K:=by
 refine .inr ⟨b,n,R0,ps,bV,body,_,fun o H2=>∃R2,o=.ex .normal R2∧H2[b]?=some (.loop .busy none n R0 ps bV body)∧n5 R (H2.set b (.loop .ready none n R0 ps bV body)) s∧eI E l (aR R d (.bool true)) (H2.set b (.loop .ready none n R0 ps bV body)) K,hf,hb,hn,fK _ _ _ _ h,?_,?_,?_,?_,?_⟩
 ·rintro o H'⟨R1,rfl,h1,_⟩;exact⟨⟨R1,rfl⟩,h1⟩
 ·rintro R1 H1⟨_,h0,h1,h2⟩;cases h0;exact fK _ _ _ _ h2
 ·rintro o H'⟨_,_,h,_⟩;exact h
 ·rintro R' H'⟨_,h0,_,h⟩;exact h
 ·rintro e R' H'⟨_,h0,_⟩ ba;cases h0;exact absurd rfl ba
theorem W.use {E:Env}{j:J}{H:ae}{Q Q':Out→ae→Prop}(h:W E j H Q)(hq:∀o H',Q o H'→Q' o H'):W E j H Q':=by
 induction h generalizing Q' with
 | skip h=>exact .skip (hq _ _ h)
 | exit h=>exact .exit (hq _ _ h)
 | ret h=>exact .ret (hq _ _ h)
 | Iw _ ih=>exact .Iw (ih hq)
 | seq M h1 h2 h3 _ ko=>exact .seq M h1 (fun R' H' hm=>ko R' H' hm hq) (fun o H' hm hn=>hq _ _ (h3 o H' hm hn))
 | cond t hx _ ih=>exact .cond t hx (ih hq)
 | block M h1 h2 h3 _=>exact .block M h1 (fun R' H' hm=>hq _ _ (h2 R' H' hm)) (fun o H' hm hn=>hq _ _ (h3 o H' hm hn))
 | loop M h1 h2 h3 _ ko=>exact .loop M h1 (fun R' H' hm=>ko R' H' hm hq) (fun o H' hm hn=>hq _ _ (h3 o H' hm hn))
 | nil h=>exact .nil (hq _ _ h)
 | no hg _ ih=>exact .no hg (ih hq)
 | op hg he hs _ ih=>exact .op hg he hs (ih hq)
 | call M hg h1 hs _ _ ko=>exact .call M hg h1 hs (fun v H' hm=>ko v H' hm hq)
 | aX M hg hf h1 hs _ _ ko=>exact .aX M hg hf h1 hs (fun v H' hm=>ko v H' hm hq)
 | lz M1 M hg hf hb hn h1 xU h2 xV Bx _ D4 _ _ _ IL IM=>exact .lz M1 M hg hf hb hn h1 xU h2 xV Bx (fun R' H' hm=>IL R' H' hm hq) D4 (fun e R' H' hm he=>IM e R' H' hm he hq)
 | wE hs h hx hy hc ih=>exact .wE hs (fun b=>ih b hq) hx hy hc
 | cj M hx h1 h2 _=>exact .cj M hx h1 (fun v H' hm=>let ⟨st,pe,a,b,c,d⟩:=h2 v H' hm;⟨st,pe,a,b,c,hq _ _ d⟩)
 | Ix M hf hn h1 h2 _=>exact .Ix M hf hn h1 (fun o H' hm=>let ⟨R',bs,a,b,c,d,v,e,f⟩:=h2 o H' hm;⟨R',bs,a,b,c,d,v,e,hq _ _ f⟩)
 | fn M hf hr hn h1 h2 _=>exact .fn M hf hr hn h1 (fun o H' hm=>let ⟨R',a,v,b,c⟩:=h2 o H' hm;⟨R',a,v,b,hq _ _ c⟩)
 | wF i M hi h1 h2 _=>exact .wF i M hi h1 (fun v H' hm=>hq _ _ (h2 v H' hm))
 | ng M h1 h2 _=>exact .ng M h1 (fun o H' hm=>let ⟨v,b,cs,a,c,d,e⟩:=h2 o H' hm;⟨v,b,cs,a,c,d,hq _ _ e⟩)
 | oE hg hx hb hs _ ih=>exact .oE hg hx hb hs fun t H' hm=>ih t H' hm hq
 | shr M h1 h2 _=>exact .shr M h1 (fun o H' hm=>let ⟨v,b,cs,k,a,c,d,e⟩:=h2 o H' hm;⟨v,b,cs,k,a,c,d,hq _ _ e⟩)
 | yf i hi hb _ ih=>exact .yf i hi hb (ih hq)
 | Jk hk hb _ ih=>exact .Jk hk hb (ih hq)
 | vw hl hv _ ih=>exact .vw hl hv (ih hq)
 | Iy hg ht hb hlen h0 he hs _ ih=>exact .Iy hg ht hb hlen h0 he hs (ih hq)
 | lA h=>exact .lA (E.mono _ _ _ _ _ h fun t H' hm=>hq _ _ hm)
theorem cE {E:Env}{K K':aj→ae→Prop}(hk:∀R H,K R H→K' R H):∀(l:List O) (R:aj) (H:ae),eI E l R H K→eI E l R H K'
 | [],R,H,h=>hk _ _ h
 | ⟨d,.b b,g,s⟩ :: l,R,H,h=>by
  simp only[eI]at h ⊢
  split at h
  ·exact cE hk l _ _ h
  ·split at h
   ·exact⟨h.1,cE hk l _ _ h.2⟩
   ·rcases h with h|⟨x,bb,bi,es,ix,cur,e,hx,hb,h⟩|⟨v,H',ha,h⟩
    ·exact .inl ⟨h.1,fun t=>cE hk l _ _ (h.2 t)⟩
    ·exact .inr (.inl ⟨x,bb,bi,es,ix,cur,e,hx,hb,fun t H' hm=>⟨(h t H' hm).1,cE hk l _ _ (h t H' hm).2⟩⟩)
    ·exact .inr (.inr ⟨v,H',ha,h.1,cE hk l _ _ h.2⟩)
 | ⟨d,.call f az,g,s⟩ :: l,R,H,h=>by
  simp only[eI]at h ⊢
  split at h
  ·exact cE hk l _ _ h
  ·obtain⟨M,h1,h2⟩:=h
   exact⟨M,h1,fun v H' hm=>⟨(h2 v H' hm).1,cE hk l _ _ (h2 v H' hm).2⟩⟩
 | ⟨d,.aX x az,g,s⟩ :: l,R,H,h=>by
  simp only[eI]at h ⊢
  split at h
  ·exact cE hk l _ _ h
  ·rcases h with⟨f,cs,M,hf,h1,h2⟩|⟨b,n,R0,ps,bV,body,M1,M,h⟩
   ·exact .inl ⟨f,cs,M,hf,h1,fun v H' hm=>⟨(h2 v H' hm).1,cE hk l _ _ (h2 v H' hm).2⟩⟩
   ·exact .inr ⟨b,n,R0,ps,bV,body,M1,M,⟨h.hf,h.hb,h.hn,h.h1,h.xU,h.h2,h.xV,fun R' H' hm=>⟨(h.h3 R' H' hm).1,cE hk l _ _ (h.h3 R' H' hm).2⟩,fun e R' H' hm he=>⟨(h.h4 e R' H' hm he).1,cE hk l _ _ (h.h4 e R' H' hm he).2⟩⟩⟩
theorem fL {E:Env}:∀(c:C) (R:aj) (H:ae) {Q Q':Out→ae→Prop},(∀o H,Q o H→Q' o H)→ft E c R H Q→ft E c R H Q'
 | .skip,R,H,Q,Q',hq,h=>hq _ _ h
 | .ops l,R,H,Q,Q',hq,h=>cE (fun R H h=>hq _ _ h) l R H h
 | .seq a b,R,H,Q,Q',hq,h=>fL a R H (fun o H' h=>by
  cases o with
  | ex e R'=>cases e with
   | normal=>exact fL b R' H' hq h
   | exit id=>exact hq _ _ h
   | ret=>exact hq _ _ h
  | val v=>exact hq _ _ h) h
 | .cond x a b,R,H,Q,Q',hq,h=>by
  simp only[ft]at h ⊢
  split at h
  ·exact fL a R H hq h
  ·exact fL b R H hq h
  ·exact h.elim
 | .block id a,R,H,Q,Q',hq,h=>fL a R H (fun o H' h=>by
  cases o with
  | ex e R'=>cases e with
   | normal=>exact hq _ _ h
   | exit i=>simp only[iV]at h ⊢;split at h<;>(rename_i e;simp only[e,if_true,if_false];exact hq _ _ h)
   | ret=>exact hq _ _ h
  | val v=>exact hq _ _ h) h
 | .exit id,R,H,Q,Q',hq,h=>hq _ _ h
 | .ret,R,H,Q,Q',hq,h=>hq _ _ h
 | .loop a,R,H,Q,Q',hq,h=>W.use h hq
 | .cj n x ps a b,R,H,Q,Q',hq,h=>W.use h hq
def oZ (v:T)(H:ae):Out→ae→Prop:=fun o H'=>o=.val v∧H'=H
theorem vD (v v':T)(H H':ae):oZ v H (.val v') H'=(v'=v∧H'=H):=by simp[oZ]
theorem vE (a b:T)(l:List T):fA (a :: b :: l) 1=b:=rfl
theorem vF (a b c:T)(l:List T):fA (a :: b :: c :: l) 2=c:=rfl
theorem vG (a b c d:T)(l:List T):fA (a :: b :: c :: d :: l) 3=d:=rfl
theorem vH (a b c d e:T)(l:List T):fA (a :: b :: c :: d :: e :: l) 4=e:=rfl
def qz (v:T)(H:ae):Out→ae→Prop:=fun o H'=>o=.val v∧∃l,H'=H++l
theorem sB (v v':T)(H l:ae):qz v H (.val v') (H++l)=(v'=v):=by simp[qz]
theorem pG (v v':T)(H:ae):qz v H (.val v') H=(v'=v):=by
 simp only[qz,Out.val.injEq,eq_iff_iff]
 exact⟨fun h=>h.1,fun h=>⟨h,[],by simp⟩⟩
theorem aa (k:IntKind)(n:Nat):bB (.int k (n:Int))=some n:=by simp[bB]
theorem wrap64 {n:Int}(h:-9223372036854775808≤n∧n<9223372036854775808):IntKind.i64.wrap n=n:=by
 unfold IntKind.wrap
 simp only[IntKind.signed,IntKind.bits]
 simp
 omega
theorem fY {n:Int}(h:0≤n∧n<18446744073709551616):IntKind.u64.wrap n=n:=by
 unfold IntKind.wrap
 simp only[IntKind.signed,IntKind.bits]
 simp
 omega
theorem aF {i:Nat}(h:i<9223372036854775807):IntKind.i64.wrap ((i:Int)+1)=((i+1:Nat):Int):=by rw[wrap64 (by omega)];simp
theorem pH {i:Nat}(h:i<9223372036854775807)(h1:1≤i):IntKind.i64.wrap ((i:Int)-1)=((i-1:Nat):Int):=by rw[wrap64 (by omega)];omega
theorem NW (H:ae)(v:T):ku H 1 (.cy [v])=some [v]:=rfl
theorem Ka (v:T):valOf false [v]=some v:=rfl
theorem Kb (cs:List T):valOf true cs=some (.agg cs):=rfl
theorem Mp (a b:Nat):decide ((a:Int)<(b:Int))=decide (a<b):=by simp
theorem Mq (a b:Nat):decide ((a:Int)≤(b:Int))=decide (a≤b):=by simp
theorem IT (a b:Nat):((a:Int)==(b:Int))=decide (a=b):=by rw[Bool.eq_iff_iff];simp;omega
theorem NX (a b:Nat):((a:Int) != (b:Int))=!decide (a=b):=by rw[Bool.eq_iff_iff];simp;omega
theorem zK:∀(a:List UInt8),Op.bytesLess a a=false
 | []=>rfl
 | x :: a=>by simp[Op.bytesLess,zK a]
theorem sC:∀(a b c:List UInt8),Op.bytesLess a b=true→Op.bytesLess b c=true→Op.bytesLess a c=true
 | _,[],_,h,_=>by cases ‹List UInt8›<;>simp[Op.bytesLess]at h
 | _,_ :: _,[],_,h=>by simp[Op.bytesLess]at h
 | [],_ :: _,_ :: _,_,_=>rfl
 | x :: a,y :: b,z :: c,h1,h2=>by
  simp only[Op.bytesLess,Bool.or_eq_true,decide_eq_true_eq,Bool.and_eq_true,beq_iff_eq]at h1 h2 ⊢
  rcases h1 with h1|⟨rfl,h1⟩
  ·rcases h2 with h2|⟨rfl,h2⟩
   ·exact .inl (UInt8.lt_trans h1 h2)
   ·exact .inl h1
  ·rcases h2 with h2|⟨rfl,h2⟩
   ·exact .inl h2
   ·exact .inr ⟨rfl,sC a b c h1 h2⟩
theorem zL:∀(a b:List UInt8),Op.bytesLess a b=false→Op.bytesLess b a=false→a=b
 | [],[],_,_=>rfl
 | [],_ :: _,h,_=>by simp[Op.bytesLess]at h
 | _ :: _,[],_,h=>by simp[Op.bytesLess]at h
 | x :: a,y :: b,h1,h2=>by
  simp only[Op.bytesLess,Bool.or_eq_false_iff,decide_eq_false_iff_not,Bool.and_eq_false_iff,beq_eq_false_iff_ne]at h1 h2
  have e:x=y:=by
   have a1:=h1.1;have a2:=h2.1
   exact UInt8.le_antisymm (UInt8.not_lt.1 a2) (UInt8.not_lt.1 a1)
  subst e
  rw[zL a b (h1.2.resolve_left (fun h=>h rfl)) (h2.2.resolve_left (fun h=>h rfl))]
theorem toList_inj {a b:ByteArray}(h:a.toList=b.toList):a=b:=by
 have e:∀c:ByteArray,c.toList=c.data.toList:=fun c=>Go.ByteArray.toList_eq c
 rw[e,e]at h
 cases a;cases b
 simp only[ByteArray.mk.injEq]
 exact Array.toList_inj.1 h
theorem dn (a b:ByteArray):fS a b=decide (a=b):=by
 unfold fS
 rw[Bool.eq_iff_iff]
 simp only[beq_iff_eq,decide_eq_true_eq]
 exact⟨toList_inj,fun h=>by rw[h]⟩
theorem iX (a:ByteArray):strLt a a=false:=zK _
theorem fu {a b c:ByteArray}(h1:strLt a b=true)(h2:strLt b c=true):strLt a c=true:=sC _ _ _ h1 h2
theorem uf {a b:ByteArray}(h1:strLt a b=false)(h2:strLt b a=false):a=b:=toList_inj (zL _ _ h1 h2)
theorem lt_asymm {a b:ByteArray}(h:strLt a b=true):strLt b a=false:=by
 cases e:strLt b a with
 | false=>rfl
 | true=>have:=fu h e;rw[iX]at this;cases this
theorem not_le (a b:ByteArray):(!(strLt b a||fS b a))=strLt a b:=by
 cases h:strLt a b with
 | true =>
  have h1:=lt_asymm h
  have h2:fS b a=false:=by rw[dn];simp;rintro rfl;rw[iX]at h;cases h
  simp[h1,h2]
 | false =>
  cases h1:strLt b a with
  | true=>simp
  | false=>have:=uf h h1;subst this;simp[dn]
def At (H:ae)(P:ae→Prop):Prop:=P H
theorem At.i {H:ae}{P:ae→Prop}(h:P H):At H P:=h
def Ext (H H':ae):Prop:=∃m,H'=H++m
theorem Ext.rfl' {H:ae}:Ext H H:=⟨[],by simp⟩
theorem Ext.trans {H H' uO:ae}(h:Ext H H')(h':Ext H' uO):Ext H uO:=by
 obtain⟨a,rfl⟩:=h;obtain⟨b,rfl⟩:=h';exact⟨a++b,by simp⟩
theorem Ext.app {H H':ae}(h:Ext H H')(l:ae):Ext H (H'++l):=h.trans ⟨l,rfl⟩
theorem Ext.set {H H':ae}(h:Ext H H'){b:Nat}(hb:H.length≤b)(x:B):Ext H (H'.set b x):=by
 obtain⟨m,rfl⟩:=h
 exact⟨m.set (b-H.length) x,by rw[List.set_append_right _ _ hb]⟩
theorem Ext.get {H H':ae}(h:Ext H H'){b:Nat}{x:B}(hx:H[b]?=some x):H'[b]?=some x:=by
 obtain⟨m,rfl⟩:=h
 have:=(List.getElem?_eq_some_iff.1 hx).1
 rw[List.getElem?_append_left this];exact hx
theorem Ext.len {H H':ae}(h:Ext H H'):H.length≤H'.length:=by obtain⟨m,rfl⟩:=h;simp
theorem a6 {H:ae}{b:Nat}{x:B}(hx:H[b]?=some x):b<H.length:=(List.getElem?_eq_some_iff.1 hx).1
theorem zM {v v':T}{H H':ae}(h:Ext H H'):qz v H (.val v') H'=(v'=v):=by
 simp only[qz,Out.val.injEq,eq_iff_iff];exact⟨fun x=>x.1,fun x=>⟨x,h⟩⟩
theorem aZ {H l:ae}{x:B}{b:Nat}(h:b=H.length):(H++x :: l)[b]?=some x:=by subst h;simp
theorem aM {H l:ae}{b:Nat}(h:b<H.length):(H++l)[b]?=H[b]?:=by rw[List.getElem?_append_left h]
theorem cK {H:ae}{x:B}{b:Nat}(h:b<H.length):(H.set b x)[b]?=some x:=by simp[h]
theorem bN {H:ae}{x:B}{b c:Nat}(h:b≠c):(H.set b x)[c]?=H[c]?:=by simp[h]
theorem ug {H l:ae}{x y:B}{b:Nat}(h:b=H.length):(H++x :: l).set b y=H++y :: l:=by subst h;simp
theorem Ez {H l:ae}{x:B}{b:Nat}(h:b<H.length):(H++l).set b x=H.set b x++l:=by rw[List.set_append_left _ _ h]
theorem EA {H l:ae}{b:Nat}(h:b<H.length):(b<(H++l).length)=True:=by simp;omega
theorem EB {H:ae}{x:B}{b c:Nat}:(b<(H.set c x).length)=(b<H.length):=by simp
theorem EC {H:ae}{x:B}{b c:Nat}:(b=(H.set c x).length)=(b=H.length):=by simp
def mE (n off:Nat):Option B→Option (List T)
 | some (.cells cs)=>if off+n≤cs.length then some ((cs.drop off).take n)else none
 | some (.fz cs)=>if off+n≤cs.length then some ((cs.drop off).take n)else none
 | _=>none
theorem qA (H:ae)(n b off:Nat):ku H n (.ptr b off)=mE n off H[b]?:=by
 simp only[ku,mE];rfl
theorem sD (H:ae)(n:Nat)(cs:List T):ku H n (.cy cs)=if n≤cs.length then some (cs.take n)else none:=rfl
theorem F7 (n off:Nat)(cs:List T):mE n off (some (.fz cs))=if off+n≤cs.length then some ((cs.drop off).take n)else none:=rfl
theorem n9 (n off:Nat)(cs:List T):mE n off (some (.cells cs))=if off+n≤cs.length then some ((cs.drop off).take n)else none:=rfl
def xo (H:ae)(b:Nat)(vs:List T)(off:Nat):Option B→Option ae
 | some (.cells cs)=>if off+vs.length≤cs.length then some (H.set b (.cells (cs.take off++vs++cs.drop (off+vs.length))))else none
 | _=>none
theorem vI (H:ae)(vs:List T)(b off:Nat):Ji H vs (.ptr b off)=xo H b vs off H[b]?:=by
 simp only[Ji,xo];rfl
theorem oa (H:ae)(b:Nat)(vs:List T)(off:Nat)(cs:List T):xo H b vs off (some (.cells cs))=if off+vs.length≤cs.length then some (H.set b (.cells (cs.take off++vs++cs.drop (off+vs.length))))else none:=rfl
theorem pI (H l:ae)(x y:B):(H++x :: l).set H.length y=H++y :: l:=ug rfl
theorem vJ (off b o:Nat):m4 off (.ptr b o)=some (.ptr b (o+off)):=rfl
def mo (id:Nat)(P:aj→ae→Prop)(Q:Out→ae→Prop):Out→ae→Prop
 | .ex (.exit i) R,H=>if i=id then P R H else Q (.ex (.exit i) R) H
 | o,H=>Q o H
theorem Kc (id:Nat)(P:aj→ae→Prop)(Q:Out→ae→Prop)(R:aj)(H:ae):mo id P Q (.ex .normal R) H=Q (.ex .normal R) H:=rfl
theorem Kd (id:Nat)(P:aj→ae→Prop)(Q:Out→ae→Prop)(R:aj)(H:ae):mo id P Q (.ex .ret R) H=Q (.ex .ret R) H:=rfl
theorem Ke (id i:Nat)(P:aj→ae→Prop)(Q:Out→ae→Prop)(R:aj)(H:ae):mo id P Q (.ex (.exit i) R) H=if i=id then P R H else Q (.ex (.exit i) R) H:=rfl
theorem W.eZ {E:Env}{α:Type}{a:C}{R:aj}{H:ae}{Q:Out→ae→Prop}(id:Nat)(I:α→aj→ae→Prop)(μ:α→Nat)(x:α)(P:aj→ae→Prop)(h0:I x R H)
  (step:∀x R H,I x R H→ft E a R H (kV (fun R' H'=>∃y,μ y<μ x∧I y R' H') (mo id P Q))) (rest:∀R H,P R H→Q (.ex (.exit id) R) H):W E (.code (.loop a) R) H Q :=
 W.use (W.cZ I μ x h0 step) fun o H' h=>by
  cases o with
  | ex e R'=>cases e with
   | exit i=>simp only[mo]at h;split at h;rename_i e;subst e;exact rest _ _ h;exact h
   | normal=>exact h
   | ret=>exact h
  | val v=>exact h
def ah {α β:Type}[DecidableEq α](es:List (α×β))(k:α):Option β:=(es.find? fun e=>decide (k=e.1)).map (·.2)
def cm {α β:Type}[DecidableEq α](es:List (α×β))(k:α)(v:β):List (α×β) :=
 match es.findIdx? fun e=>decide (k=e.1)with
 | some i=>es.set i (k,v)
 | none=>es++[(k,v)]
def jz {α β:Type}[DecidableEq α](es:List (α×β))(k:α):List (α×β) :=
 match es.findIdx? fun e=>decide (k=e.1)with
 | some i=>es.eraseIdx i
 | none=>es
section
variable {α β:Type} [DecidableEq α]
theorem cI (k:α):ah ([]:List (α×β)) k=none:=rfl
theorem bz (e:α×β)(es:List (α×β))(k:α):ah (e :: es) k=if k=e.1 then some e.2 else ah es k:=by
 unfold ah;rw[List.find?_cons];by_cases h:k=e.1<;>simp[h]
theorem zN (k:α)(v:β):cm [] k v=[(k,v)]:=rfl
theorem lR (e:α×β)(es:List (α×β))(k:α)(v:β):cm (e :: es) k v=if k=e.1 then(k,v) :: es else e :: cm es k v:=by
 unfold cm;rw[List.findIdx?_cons]
 by_cases h:k=e.1
 ·simp[h]
 ·simp only[h,decide_false,if_false,Bool.false_eq_true]
  cases List.findIdx? (fun e=>decide (k=e.1)) es<;>simp
theorem a0 (es:List (α×β))(k k':α)(v:β):ah (cm es k v) k'=if k'=k then some v else ah es k':=by
 induction es with
 | nil=>rw[zN,bz]
 | cons e es ih =>
  rw[lR]
  by_cases h:k=e.1
  ·simp only[h,if_true,bz];by_cases h':k'=e.1<;>simp[h']
  ·simp only[h,if_false,bz,ih]
   by_cases h':k'=e.1
   ·subst h';simp[Ne.symm h]
   ·simp[h']
theorem pJ (es:List (α×β))(k:α):ah es k=match es.findIdx? fun e=>decide (k=e.1)with
  | some i=>(es[i]?).map (·.2)
  | none=>none:=by
 induction es with
 | nil=>rfl
 | cons e es ih =>
  rw[bz,List.findIdx?_cons]
  by_cases h:k=e.1
  ·simp[h]
  ·simp only[h,if_false,decide_false,Bool.false_eq_true,ih]
   cases List.findIdx? (fun e=>decide (k=e.1)) es<;>simp
theorem zO {es:List (α×β)}{k:α}{i:Nat}(h:(es.findIdx? fun e=>decide (k=e.1))=some i):∃v,es[i]?=some (k,v):=by
 rw[List.findIdx?_eq_some_iff_getElem]at h
 obtain⟨hi,h,-⟩:=h
 refine⟨es[i].2,?_⟩
 rw[List.getElem?_eq_getElem hi]
 simp only[decide_eq_true_eq]at h
 rw[h]
end
def bo {α:Type}(ek:α→T)(es:List (α×T)):List (T×T):=es.map fun e=>(ek e.1,e.2)
structure ob {α:Type}[DecidableEq α](kt:KT)(ek:α→T):Prop where
 has:∀a,(ek a).ga kt=true
 eq:∀a b,fx (ek a) (ek b)=some (decide (a=b))
section
variable {α:Type} [DecidableEq α] {kt:KT} {ek:α→T}
theorem qB (ho:ob kt ek)(k:α):∀es:List (α×T),cq (ek k) (bo ek es)=some (es.findIdx? fun e=>decide (k=e.1))
 | []=>rfl
 | e :: es=>by
  have ih:=qB ho k es
  simp only[bo]at ih ⊢
  simp only[List.map_cons,cq,ho.eq,List.findIdx?_cons]
  cases h:decide (k=e.1)
  ·simp[ih]
  ·simp
def gY (o:Option T)(z:T)(ok:Bool):T:=match o with
 | some v=>if ok then .bE [v,.bool true]else v
 | none=>if ok then .bE [z,.bool false]else z
def uh (kt:KT)(z:T)(ok:Bool)(H:ae)(mb:Option B)(k:T):Option (T×ae):=match mb with
 | some (.map es)=>if k.ga kt then match cq k es with
  | some (some i)=>match es[i]? with
   | some e=>some (if ok then .bE [e.2,.bool true]else e.2,H)
   | none=>none
  | some none=>some (if ok then .bE [z,.bool false]else z,H)
  | none=>none else none
 | some (.da es _ _ _)=>if k.ga kt then match cq k es with
  | some (some i)=>match es[i]? with
   | some e=>some (if ok then .bE [e.2,.bool true]else e.2,H)
   | none=>none
  | some none=>some (if ok then .bE [z,.bool false]else z,H)
  | none=>none else none
 | _=>none
def F8 (kt:KT)(z:T)(ok:Bool)(H:ae)(m k:T):Option (T×ae):=match m with
 | .map b=>uh kt z ok H H[b]? k
 | .fc=>if k.ga kt then some (if ok then .bE [z,.bool false]else z,H)else none
 | _=>none
theorem zP (R:aj)(H:ae)(kt:KT)(z:T)(ok:Bool)(m k:X):ai R H (.ma kt z ok m k)=F8 kt z ok H (m.ev R) (k.ev R):=by
 unfold F8 uh
 simp only[ai]
 cases h1:(k.ev R).ga kt
 ·simp only[Bool.false_eq_true,if_false]
  cases m.ev R with
  | map b=>simp only;split<;>rfl
  | _=>rfl
 ·simp only[if_true]
  cases m.ev R with
  | map b =>
   simp only[eX]
   cases H[b]? with
   | none=>rfl
   | some x=>cases x<;>rfl
  | fc=>simp only[eX,cq]
  | _=>rfl
theorem sE (kt:KT)(z:T)(ok:Bool)(H:ae)(b:Nat)(k:T):F8 kt z ok H (.map b) k=uh kt z ok H H[b]? k:=rfl
theorem kf (ho:ob kt ek)(z:T)(ok:Bool)(H:ae)(es:List (α×T))(s:α):uh kt z ok H (some (.map (bo ek es))) (ek s)=some (gY (ah es s) z ok,H):=by
 simp only[uh,ho.has,qB ho,if_true,pJ]
 cases h:List.findIdx? (fun e=>decide (s=e.1)) es with
 | none=>cases ok<;>rfl
 | some i =>
  obtain⟨v,hv⟩:=zO h
  have:(bo ek es)[i]?=some (ek s,v):=by simp[bo,hv]
  simp only[this,hv,gY,Option.map_some]
def sF (kt:KT)(H:ae)(b:Nat)(mb:Option B)(k v:T):Option (T×ae):=match mb with
 | some (.map es)=>if k.ga kt then match cq k es with
  | some (some i)=>some (bq,H.set b (.map (es.set i (k,v))))
  | some none=>some (bq,H.set b (.map (es++[(k,v)])))
  | none=>none else none
 | _=>none
def F9 (kt:KT)(H:ae)(m k v:T):Option (T×ae):=match m with
 | .map b=>sF kt H b H[b]? k v
 | _=>none
theorem zQ (R:aj)(H:ae)(kt:KT)(m k v:X):ai R H (.xS kt m k v)=F9 kt H (m.ev R) (k.ev R) (v.ev R):=by
 unfold F9 sF
 simp only[ai]
 cases m.ev R with
 | map b =>
  simp only
  cases h1:(k.ev R).ga kt
  ·simp only[Bool.false_eq_true,if_false];split<;>rfl
  ·simp only[if_true]
   cases H[b]? with
   | none=>rfl
   | some x=>cases x<;>rfl
 | _=>rfl
theorem sG {β γ:Type}(f:β→γ):∀(l:List β) (j:Nat),(l.map f).eraseIdx j=(l.eraseIdx j).map f
 | [],_=>by simp
 | _ :: _,0=>by simp
 | _ :: l,j+1=>by simp[sG f l j]
def zR (kt:KT)(H:ae)(b:Nat)(mb:Option B)(k:T):Option (T×ae):=match mb with
 | some (.map es)=>if k.ga kt then match cq k es with
  | some (some i)=>some (.bE [],H.set b (.map (es.eraseIdx i)))
  | some none=>some (.bE [],H)
  | none=>none else none
 | _=>none
def Ga (kt:KT)(H:ae)(m k:T):Option (T×ae):=match m with
 | .map b=>zR kt H b H[b]? k
 | _=>none
theorem zS (R:aj)(H:ae)(kt:KT)(m k:X):ai R H (.del kt m k)=Ga kt H (m.ev R) (k.ev R):=by
 unfold Ga zR
 simp only[ai]
 cases m.ev R with
 | map b =>
  simp only
  cases h1:(k.ev R).ga kt
  ·simp only[Bool.false_eq_true,if_false];split<;>rfl
  ·simp only[if_true]
   cases H[b]? with
   | none=>rfl
   | some x=>cases x<;>rfl
 | _=>rfl
theorem sH (kt:KT)(H:ae)(b:Nat)(k:T):Ga kt H (.map b) k=zR kt H b H[b]? k:=rfl
def mF (es:List (α×T))(s:α):List (α×T):=match es.findIdx? (fun e=>decide (s=e.1))with
 | some i=>es.eraseIdx i
 | none=>es
theorem zT (ho:ob kt ek)(H:ae)(b:Nat)(es:List (α×T))(s:α){v:T}(hv:ah es s=some v):zR kt H b (some (.map (bo ek es))) (ek s)=some (.bE [],H.set b (.map (bo ek (mF es s)))):=by
 rw[pJ]at hv
 simp only[zR,ho.has,qB ho,if_true,mF]
 cases h:List.findIdx? (fun e=>decide (s=e.1)) es with
 | none=>rw[h]at hv;simp at hv
 | some i=>simp only[bo,Option.some.injEq,Prod.mk.injEq,true_and];congr 2;rw[sG]
def Gb (H:ae)(b:Nat):Option B→Option (T×ae)
 | some (.map es)=>some (.ptr H.length 0,H.set b (.da es (List.range es.length) H.length none)++[.uL b])
 | some (.da es _ _ _)=>some (.ptr H.length 0,H.set b (.da es (List.range es.length) H.length none)++[.uL b])
 | _=>none
def Gc (H:ae):T→Option (T×ae)
 | .map b=>Gb H b H[b]?
 | _=>none
theorem zU (R:aj)(H:ae)(x:X):ai R H (.Je x)=Gc H (x.ev R):=by
 simp only[ai]
 cases x.ev R with
 | map b =>
  simp only[eX,Gc]
  cases H[b]? with
  | none=>rfl
  | some y=>cases y<;>rfl
 | _=>rfl
theorem sI (H:ae)(b:Nat):Gc H (.map b)=Gb H b H[b]?:=rfl
theorem zV (H:ae)(b:Nat)(es:List (T×T)):Gb H b (some (.map es))=some (.ptr H.length 0,H.set b (.da es (List.range es.length) H.length none)++[.uL b]):=rfl
theorem zW (R:aj)(H:ae)(x:X):ai R H (.oE x)=none:=rfl
def C9 (H:ae)(bi:Nat):Option B→Option (T×ae)
 | some (.da es _ Jj (some c))=>if Jj=bi then(es[c]?).map fun e=>(.bE [e.1,e.2],H)else none
 | _=>none
def Da (H:ae)(bi:Nat):Option B→Option (T×ae)
 | some (.uL b)=>C9 H bi H[b]?
 | _=>none
def Ge (H:ae):T→Option (T×ae)
 | .ptr bi 0=>Da H bi H[bi]?
 | _=>none
theorem zX (R:aj)(H:ae)(x:X):ai R H (.Jf x)=Ge H (x.ev R):=by
 simp only[ai]
 cases x.ev R with
 | ptr bi o =>
  cases o with
  | zero =>
   simp only[Ge]
   cases H[bi]? with
   | none=>rfl
   | some y=>cases y with
    | uL b =>
     simp only[Da]
     cases H[b]? with
     | none=>rfl
     | some z=>cases z with
      | da es ix Jj cur=>cases cur<;>rfl
      | _=>rfl
    | _=>rfl
  | succ _=>rfl
 | _=>rfl
theorem sJ (H:ae)(bi:Nat):Ge H (.ptr bi 0)=Da H bi H[bi]?:=rfl
theorem zY (H:ae)(bi b:Nat):Da H bi (some (.uL b))=C9 H bi H[b]?:=rfl
theorem zZ (H:ae)(bi:Nat)(es:List (T×T))(ix:List Nat)(c:Nat):C9 H bi (some (.da es ix bi (some c)))=(es[c]?).map fun e=>(.bE [e.1,e.2],H):=by simp only[C9,if_true]
def Db (H:ae)(b off len n n':Nat)(z:List T):Option B→Option (T×ae)
 | some (.cells cs)=>if n'=n∧z.length=n∧off+len*n≤cs.length then some (bq,H.set b (.cells (cs.take off++(List.replicate len z).flatten++cs.drop (off+len*n))))else none
 | _=>none
def Gf (H:ae)(n:Nat)(z:List T):T→Option (T×ae)
 | .aE b off len n'=>Db H b off len n n' z H[b]?
 | _=>none
theorem z1 (R:aj)(H:ae)(n:Nat)(z:List T)(x:X):ai R H (.Iu n z x)=Gf H n z (x.ev R):=by
 simp only[ai]
 cases x.ev R with
 | aE b off len n' =>
  simp only[Gf]
  cases H[b]? with
  | none=>rfl
  | some y=>cases y<;>rfl
 | _=>rfl
theorem kW (H:ae)(n:Nat)(z:List T)(b off len n':Nat):Gf H n z (.aE b off len n')=Db H b off len n n' z H[b]?:=rfl
theorem sK (kt:KT)(H:ae)(b:Nat)(k v:T):F9 kt H (.map b) k v=sF kt H b H[b]? k v:=rfl
theorem qC (ho:ob kt ek)(H:ae)(b:Nat)(es:List (α×T))(s:α)(v:T):sF kt H b (some (.map (bo ek es))) (ek s) v=some (bq,H.set b (.map (bo ek (cm es s v)))):=by
 simp only[sF,ho.has,qB ho,if_true,cm]
 cases h:List.findIdx? (fun e=>decide (s=e.1)) es with
 | none=>simp[bo]
 | some i=>simp[bo]
end
theorem Kf:ob (.sc .str) T.str:=⟨fun _=>rfl,fun a b=>by simp only[fx,fQ,dn]⟩
def kU (n:Nat):T:=.int .u64 n
theorem Gg:ob (.sc .int) kU:=⟨fun _=>rfl,fun a b=>by simp only[kU,fx,fQ,if_true,IT]⟩
theorem iY (z:T)(ok:Bool)(H:ae)(es:List (ByteArray×T))(s:ByteArray):uh (.sc .str) z ok H (some (.map (bo T.str es))) (.str s)=some (gY (ah es s) z ok,H):=kf Kf z ok H es s
theorem gZ (z:T)(ok:Bool)(H:ae)(es:List (Nat×T))(s:Nat):uh (.sc .int) z ok H (some (.map (bo kU es))) (.int .u64 s)=some (gY (ah es s) z ok,H):=kf Gg z ok H es s
theorem oc (H:ae)(b:Nat)(es:List (ByteArray×T))(s:ByteArray)(v:T):sF (.sc .str) H b (some (.map (bo T.str es))) (.str s) v=some (bq,H.set b (.map (bo T.str (cm es s v)))):=qC Kf H b es s v
theorem od (H:ae)(b:Nat)(es:List (Nat×T))(s:Nat)(v:T):sF (.sc .int) H b (some (.map (bo kU es))) (.int .u64 s) v=some (bq,H.set b (.map (bo kU (cm es s v)))):=qC Gg H b es s v
theorem sL (v z:T):gY (some v) z false=v:=rfl
theorem sM (z:T):gY none z false=z:=rfl
theorem pK (v z:T):gY (some v) z true=.bE [v,.bool true]:=rfl
theorem pL (z:T):gY none z true=.bE [z,.bool false]:=rfl
theorem pM (l:List T):(T.agg l).cells?=some l:=rfl
theorem pN (k:IntKind)(n:Int):(T.int k n).cells?=some [.int k n]:=rfl
theorem pO (s:ByteArray):(T.str s).cells?=some [.str s]:=rfl
theorem oe (s:Bool):(T.bool s).cells?=some [.bool s]:=rfl
theorem sN (k:SK)(l:List (List T)):(T.sl k l).cells?=some [.sl k l]:=rfl
theorem pP (a b c d:Nat):(T.aE a b c d).cells?=some [.aE a b c d]:=rfl
theorem pQ (b:Nat):(T.map b).cells?=some [.map b]:=rfl
theorem pR (a b:Nat):(T.ptr a b).cells?=some [.ptr a b]:=rfl
theorem og:(T.fc).cells?=some [.fc]:=rfl
theorem oh:(T.fb).cells?=some [.fb]:=rfl
theorem Kg (v:T):wD [v]=v:=rfl
theorem Kh (v w:T):wD [v,w]=.bE [v,w]:=rfl
theorem Ki (v w x:T):wD [v,w,x]=.bE [v,w,x]:=rfl
theorem z2 (k:IntKind)(n:Int):(T.int k n).erase=.int k n:=rfl
theorem z3 (s:ByteArray):(T.str s).erase=.str s:=rfl
theorem vK (s:Bool):(T.bool s).erase=.bool s:=rfl
theorem ED (k:SK)(l:List (List T)):(T.sl k l).erase=.sl .arg l:=rfl
theorem z4 (a b:Nat):(T.ptr a b).erase=.ptr a b:=rfl
theorem qD (b:Nat):(T.map b).erase=.map b:=rfl
theorem vL:(T.fc).erase=.fc:=rfl
theorem vM:(T.fb).erase=.fb:=rfl
theorem EE (H:ae)(n:Nat)(k:SK)(es:List (List T)):aP H n (.sl k es)=if es.all (·.length==n)then some es else none:=rfl
theorem z6 (R:aj):aS R Option.none=true:=rfl
theorem z8 (p:Prop):(True→p)=p:=by simp
theorem EF (p:Prop):(p→True)=True:=by simp
theorem EG (p:Prop):(true=true→p)=p:=by simp
theorem EH (p:Prop):(false=true→p)=True:=by simp
theorem Aa (b:Bool):Jh .not (.bool b)=some (.bool !b):=rfl
theorem Ac (k:IntKind)(a b:Int):bW .add (.int k a) (.int k b)=some (.int k (k.wrap (a+b))):=by simp[bW]
theorem Ad (k:IntKind)(a b:Int):bW .sub (.int k a) (.int k b)=some (.int k (k.wrap (a-b))):=by simp[bW]
theorem Ae (k:IntKind)(a b:Int):bW .mul (.int k a) (.int k b)=some (.int k (k.wrap (a*b))):=by simp[bW]
theorem Af (k:IntKind)(a b:Int):bW .quo (.int k a) (.int k b)=if b=0 then none else some (.int k (k.wrap (a.tdiv b))):=by simp[bW]
theorem Ag (k:IntKind)(a b:Int):bW .rem (.int k a) (.int k b)=if b=0 then none else some (.int k (a.tmod b)):=by simp[bW]
theorem Ah (k k':IntKind)(a b:Int):bW .shl (.int k a) (.int k' b)=if b<0 then none else some (.int k (k.wrap (a*2^(min b.toNat k.bits)))):=by simp[bW]
theorem Ai (k k':IntKind)(a b:Int):bW .shr (.int k a) (.int k' b)=if b<0 then none else some (.int k (a.fdiv (2^(min b.toNat k.bits)))):=by simp[bW]
theorem Aj (k:IntKind)(a b:Int):bW .and (.int k a) (.int k b)=some (.int k (k.wrap (BitVec.ofInt k.bits a &&& BitVec.ofInt k.bits b).toNat)):=by simp[bW]
theorem EI (k:IntKind)(a b:Int):bW .or (.int k a) (.int k b)=some (.int k (k.wrap (BitVec.ofInt k.bits a ||| BitVec.ofInt k.bits b).toNat)):=by simp[bW]
theorem Ak (k:IntKind)(a b:Int):bW .xor (.int k a) (.int k b)=some (.int k (k.wrap (BitVec.ofInt k.bits a ^^^ BitVec.ofInt k.bits b).toNat)):=by simp[bW]
theorem Al (k:IntKind)(a b:Int):bW .eql (.int k a) (.int k b)=some (.bool (a==b)):=by simp[bW]
theorem Am (k:IntKind)(a b:Int):bW .neq (.int k a) (.int k b)=some (.bool (a != b)):=by simp[bW]
theorem Ao (k:IntKind)(a b:Int):bW .lss (.int k a) (.int k b)=some (.bool (a<b)):=by simp[bW]
theorem Ap (k:IntKind)(a b:Int):bW .leq (.int k a) (.int k b)=some (.bool (a≤b)):=by simp[bW]
theorem Aq (k:IntKind)(a b:Int):bW .gtr (.int k a) (.int k b)=some (.bool (b<a)):=by simp[bW]
theorem Ar (k:IntKind)(a b:Int):bW .geq (.int k a) (.int k b)=some (.bool (b≤a)):=by simp[bW]
theorem As (a b:ByteArray):bW .eql (.str a) (.str b)=some (.bool (decide (a=b))):=by simp[bW,dn]
theorem Au (a b:ByteArray):bW .neq (.str a) (.str b)=some (.bool (!decide (a=b))):=by simp[bW,dn]
theorem Av (a b:ByteArray):bW .lss (.str a) (.str b)=some (.bool (strLt a b)):=by rfl
theorem Aw (a b:ByteArray):bW .leq (.str a) (.str b)=some (.bool (!strLt b a)):=by have:=not_le b a;simp only[bW,Option.some.injEq,T.bool.injEq];rw[←this];simp
theorem Ax (a b:ByteArray):bW .gtr (.str a) (.str b)=some (.bool (strLt b a)):=by have:=not_le b a;simp only[bW,Option.some.injEq,T.bool.injEq];exact this
theorem Ay (a b:ByteArray):bW .geq (.str a) (.str b)=some (.bool (!strLt a b)):=by rfl
theorem Az (a b:ByteArray):bW .add (.str a) (.str b)=if a.size+b.size≤9223372036854775807 then some (.str (a++b))else none:=rfl
theorem AA (a b:Nat):decide ((a:Int)<(no_index (OfNat.ofNat b)))=decide (a<OfNat.ofNat b):=Mp a b
theorem AB (a b:Nat):decide ((no_index (OfNat.ofNat b):Int)<(a:Int))=decide (OfNat.ofNat b<a):=Mp b a
theorem AD (a b:Nat):decide ((a:Int)≤(no_index (OfNat.ofNat b)))=decide (a≤OfNat.ofNat b):=Mq a b
theorem AE (a b:Nat):decide ((no_index (OfNat.ofNat b):Int)≤(a:Int))=decide (OfNat.ofNat b≤a):=Mq b a
theorem AF (a b:Nat):((a:Int)==(no_index (OfNat.ofNat b)))=decide (a=OfNat.ofNat b):=IT a b
theorem AG (a b:Nat):((a:Int) != (no_index (OfNat.ofNat b)))=!decide (a=OfNat.ofNat b):=NX a b
set_option linter.defProp false in
theorem S1:type_of% (And.intro (@J7)<|And.intro (@ai.eq_37)<|And.intro (@ai.eq_38)<|And.intro (@ai.eq_43)<|And.intro (@ai.eq_44)<|And.intro (@ai.eq_45)<|And.intro (@Kc)<|And.intro (@Kd)<|And.intro (@Ke)<|And.intro (@fy.eq_1)<|And.intro (@fy.eq_2)<|And.intro (@z6)<|And.intro (@z8)<|And.intro (@EF)<|And.intro (@EG)<|And.intro (@EH)<|And.intro (@zu)<|And.intro (@List.nil_append.{0})<|And.intro (@List.append_nil.{0})<|And.intro (@List.cons_append.{0})<|And.intro (@z2)<|And.intro (@z3)<|And.intro (@vK)<|And.intro (@ED)<|And.intro (@z4)<|And.intro (@qD)<|And.intro (@vL)<|And.intro (@vM)<|And.intro (@EE)<|And.intro (@dF.eq_1)<|And.intro (@dF.eq_2)<|And.intro (@jG.eq_1)<|And.intro (@jG.eq_2)<|And.intro (@gv.eq_1)<|And.intro (@gv.eq_2)<|And.intro (@gw.eq_1)<|And.intro (@gw.eq_2)<|And.intro (@List.replicate_zero.{0})<|And.intro (@List.replicate_succ.{0})<|And.intro (@List.set_cons_zero.{0})<|And.intro (@List.set_cons_succ.{0})<|And.intro (@List.all_cons.{0})<|And.intro (@List.all_nil.{0})<|And.intro (@Bool.and_true)<|And.intro (@Bool.true_and)<|And.intro (@sD)<|And.intro (@qA)<|And.intro (@n9)<|And.intro (@vI)<|And.intro (@oa)<|And.intro (@vJ)<|And.intro (@AA)<|And.intro (@AB)<|And.intro (@AD)<|And.intro (@AE)<|And.intro (@AF)<|And.intro (@AG)<|And.intro (@El)<|And.intro (@Q7)<|And.intro (@Q8)<|And.intro (@Q9)<|And.intro (@J6)<|And.intro (@zx)<|And.intro (@Em)<|And.intro (@En)<|And.intro (@zy)<|And.intro (@zz)<|And.intro (@zA)<|And.intro (@Eo)<|And.intro (@vB)<|And.intro (@jQ)<|And.intro (@zB)<|And.intro (@qy)<|And.intro (@zC)<|And.intro (@Ep)<|And.intro (@zD)<|And.intro (@vC)<|And.intro (@eu)<|And.intro (@zE)<|And.intro (@zF)<|And.intro (@gn)<|And.intro (@zG)<|And.intro (@zH)<|And.intro (@Er)<|And.intro (@Es)<|And.intro (@Et)<|And.intro (@Bool.false_eq_true)<|And.intro (@zI)<|And.intro (@zJ)<|And.intro (@Eu)<|And.intro (@Ey)<|And.intro (@Ev)<|And.intro (@Ew)<|And.intro (@sB)<|And.intro (@pG)<|And.intro (@List.length_cons.{0})<|And.intro (@List.length_nil.{0})<|And.intro (@List.drop_succ_cons.{0})<|And.intro (@List.drop_zero.{0})<|And.intro (@List.take_succ_cons.{0})<|And.intro (@List.take_zero.{0})<|And.intro (@pM)<|And.intro (@pN)<|And.intro (@pO)<|And.intro (@oe)<|And.intro (@sN)<|And.intro (@pP)<|And.intro (@pQ)<|And.intro (@pR)<|And.intro (@og)<|And.intro (@oh)<|And.intro (@m4.eq_1)<|And.intro (@m4.eq_2)<|And.intro (@Nat.zero_add)<|And.intro (@J3)<|And.intro (@J4)<|And.intro (@n5.eq_1)<|And.intro (@n5.eq_2)<|And.intro (@zo)<|And.intro (@zp)<|And.intro (@zq)<|And.intro (@vA)<|And.intro (@vE)<|And.intro (@vF)<|And.intro (@vG)<|And.intro (@vH)<|And.intro (@true_and)<|And.intro (@and_true)<|And.intro (@Option.map_some.{0,0})<|And.intro (@Option.bind_some.{0,0})<|And.intro (@Aa)<|And.intro (@ey.eq_1)<|And.intro (@ey.eq_2)<|And.intro (@ey.eq_3)<|And.intro (@ey.eq_4)<|And.intro (@ey.eq_5)<|And.intro (@aa)<|And.intro (@Ka)<|And.intro (@Kb)<|And.intro (@ue.eq_1)<|And.intro (@ue.eq_2)<|And.intro (@mA.eq_1)<|And.intro (@oO.eq_1)<|And.intro (@oO.eq_2)<|And.intro (@tq.eq_1)<|And.intro (@tq.eq_2)<|And.intro (@Kg)<|And.intro (@Kh)<|And.intro (@Ki)<|And.intro (@Mp)<|And.intro (@Mq)<|And.intro (@IT)<|And.intro (@NX)<|And.intro (@List.map_cons.{0,0})<|And.intro (@List.map_nil.{0,0})<|And.intro (@decide_true)<|And.intro (@decide_false)<|And.intro (@dn)<|And.intro (@Bool.not_true)<|And.intro (@Bool.not_false)<|And.intro (@beq_self_eq_true.{0})<|And.intro (@bne_self_eq_false.{0})<|And.intro (@List.getElem?_cons_zero.{0})<|And.intro (@List.getElem?_cons_succ.{0})<|And.intro (@List.getElem?_nil.{0})<|And.intro (@List.length_map.{0,0})<|And.intro (@vD)<|And.intro (@T.bool.injEq)<|And.intro (@T.int.injEq)<|And.intro (@T.str.injEq)<|And.intro (@T.bE.injEq)<|And.intro (@ai.eq_1)<|And.intro (@ai.eq_2)<|And.intro (@ai.eq_3)<|And.intro (@ai.eq_4)<|And.intro (@ai.eq_5)<|And.intro (@ai.eq_6)<|And.intro (@ai.eq_7)<|And.intro (@ai.eq_8)<|And.intro (@ai.eq_9)<|And.intro (@ai.eq_10)<|And.intro (@ai.eq_11)<|And.intro (@ai.eq_12)<|And.intro (@ai.eq_13)<|And.intro (@ai.eq_14)<|And.intro (@ai.eq_15)<|And.intro (@ai.eq_16)<|And.intro (@ai.eq_17)<|And.intro (@ai.eq_18)<|And.intro (@ai.eq_19)<|And.intro (@ai.eq_20)<|And.intro (@ai.eq_21)<|And.intro (@ai.eq_22)<|And.intro (@ai.eq_23)<|And.intro (@ai.eq_24)<|And.intro (@ai.eq_25)<|And.intro (@ai.eq_26)<|And.intro (@zS)<|And.intro (@sH)<|And.intro (@zU)<|And.intro (@sI)<|And.intro (@zV)<|And.intro (@zW)<|And.intro (@zX)<|And.intro (@sJ)<|And.intro (@zY)<|And.intro (@zZ)<|And.intro (@z1)<|And.intro (@kW)<|And.intro (@ai.eq_30)<|And.intro (@ai.eq_31)<|And.intro (@ai.eq_32)<|And.intro (@ai.eq_33)<|And.intro (@ai.eq_34)<|And.intro (@ai.eq_35)<|And.intro (@ai.eq_36)<|And.intro (@zP)<|And.intro (@zQ)<|And.intro (@sE)<|And.intro (@iY)<|And.intro (@gZ)<|And.intro (@sK)<|And.intro (@oc)<|And.intro (@od)<|And.intro (@sL)<|And.intro (@sM)<|And.intro (@pK)<|And.intro (@pL)<|And.intro (@Ac)<|And.intro (@Ad)<|And.intro (@Ae)<|And.intro (@Af)<|And.intro (@Ag)<|And.intro (@Ah)<|And.intro (@Ai)<|And.intro (@Aj)<|And.intro (@EI)<|And.intro (@Ak)<|And.intro (@Al)<|And.intro (@Am)<|And.intro (@Ao)<|And.intro (@Ap)<|And.intro (@Aq)<|And.intro (@Ar)<|And.intro (@As)<|And.intro (@Au)<|And.intro (@Av)<|And.intro (@Aw)<|And.intro (@Ax)<|And.intro (@Ay)<|(@Az)):=And.intro (@J7)<|And.intro (@ai.eq_37)<|And.intro (@ai.eq_38)<|And.intro (@ai.eq_43)<|And.intro (@ai.eq_44)<|And.intro (@ai.eq_45)<|And.intro (@Kc)<|And.intro (@Kd)<|And.intro (@Ke)<|And.intro (@fy.eq_1)<|And.intro (@fy.eq_2)<|And.intro (@z6)<|And.intro (@z8)<|And.intro (@EF)<|And.intro (@EG)<|And.intro (@EH)<|And.intro (@zu)<|And.intro (@List.nil_append.{0})<|And.intro (@List.append_nil.{0})<|And.intro (@List.cons_append.{0})<|And.intro (@z2)<|And.intro (@z3)<|And.intro (@vK)<|And.intro (@ED)<|And.intro (@z4)<|And.intro (@qD)<|And.intro (@vL)<|And.intro (@vM)<|And.intro (@EE)<|And.intro (@dF.eq_1)<|And.intro (@dF.eq_2)<|And.intro (@jG.eq_1)<|And.intro (@jG.eq_2)<|And.intro (@gv.eq_1)<|And.intro (@gv.eq_2)<|And.intro (@gw.eq_1)<|And.intro (@gw.eq_2)<|And.intro (@List.replicate_zero.{0})<|And.intro (@List.replicate_succ.{0})<|And.intro (@List.set_cons_zero.{0})<|And.intro (@List.set_cons_succ.{0})<|And.intro (@List.all_cons.{0})<|And.intro (@List.all_nil.{0})<|And.intro (@Bool.and_true)<|And.intro (@Bool.true_and)<|And.intro (@sD)<|And.intro (@qA)<|And.intro (@n9)<|And.intro (@vI)<|And.intro (@oa)<|And.intro (@vJ)<|And.intro (@AA)<|And.intro (@AB)<|And.intro (@AD)<|And.intro (@AE)<|And.intro (@AF)<|And.intro (@AG)<|And.intro (@El)<|And.intro (@Q7)<|And.intro (@Q8)<|And.intro (@Q9)<|And.intro (@J6)<|And.intro (@zx)<|And.intro (@Em)<|And.intro (@En)<|And.intro (@zy)<|And.intro (@zz)<|And.intro (@zA)<|And.intro (@Eo)<|And.intro (@vB)<|And.intro (@jQ)<|And.intro (@zB)<|And.intro (@qy)<|And.intro (@zC)<|And.intro (@Ep)<|And.intro (@zD)<|And.intro (@vC)<|And.intro (@eu)<|And.intro (@zE)<|And.intro (@zF)<|And.intro (@gn)<|And.intro (@zG)<|And.intro (@zH)<|And.intro (@Er)<|And.intro (@Es)<|And.intro (@Et)<|And.intro (@Bool.false_eq_true)<|And.intro (@zI)<|And.intro (@zJ)<|And.intro (@Eu)<|And.intro (@Ey)<|And.intro (@Ev)<|And.intro (@Ew)<|And.intro (@sB)<|And.intro (@pG)<|And.intro (@List.length_cons.{0})<|And.intro (@List.length_nil.{0})<|And.intro (@List.drop_succ_cons.{0})<|And.intro (@List.drop_zero.{0})<|And.intro (@List.take_succ_cons.{0})<|And.intro (@List.take_zero.{0})<|And.intro (@pM)<|And.intro (@pN)<|And.intro (@pO)<|And.intro (@oe)<|And.intro (@sN)<|And.intro (@pP)<|And.intro (@pQ)<|And.intro (@pR)<|And.intro (@og)<|And.intro (@oh)<|And.intro (@m4.eq_1)<|And.intro (@m4.eq_2)<|And.intro (@Nat.zero_add)<|And.intro (@J3)<|And.intro (@J4)<|And.intro (@n5.eq_1)<|And.intro (@n5.eq_2)<|And.intro (@zo)<|And.intro (@zp)<|And.intro (@zq)<|And.intro (@vA)<|And.intro (@vE)<|And.intro (@vF)<|And.intro (@vG)<|And.intro (@vH)<|And.intro (@true_and)<|And.intro (@and_true)<|And.intro (@Option.map_some.{0,0})<|And.intro (@Option.bind_some.{0,0})<|And.intro (@Aa)<|And.intro (@ey.eq_1)<|And.intro (@ey.eq_2)<|And.intro (@ey.eq_3)<|And.intro (@ey.eq_4)<|And.intro (@ey.eq_5)<|And.intro (@aa)<|And.intro (@Ka)<|And.intro (@Kb)<|And.intro (@ue.eq_1)<|And.intro (@ue.eq_2)<|And.intro (@mA.eq_1)<|And.intro (@oO.eq_1)<|And.intro (@oO.eq_2)<|And.intro (@tq.eq_1)<|And.intro (@tq.eq_2)<|And.intro (@Kg)<|And.intro (@Kh)<|And.intro (@Ki)<|And.intro (@Mp)<|And.intro (@Mq)<|And.intro (@IT)<|And.intro (@NX)<|And.intro (@List.map_cons.{0,0})<|And.intro (@List.map_nil.{0,0})<|And.intro (@decide_true)<|And.intro (@decide_false)<|And.intro (@dn)<|And.intro (@Bool.not_true)<|And.intro (@Bool.not_false)<|And.intro (@beq_self_eq_true.{0})<|And.intro (@bne_self_eq_false.{0})<|And.intro (@List.getElem?_cons_zero.{0})<|And.intro (@List.getElem?_cons_succ.{0})<|And.intro (@List.getElem?_nil.{0})<|And.intro (@List.length_map.{0,0})<|And.intro (@vD)<|And.intro (@T.bool.injEq)<|And.intro (@T.int.injEq)<|And.intro (@T.str.injEq)<|And.intro (@T.bE.injEq)<|And.intro (@ai.eq_1)<|And.intro (@ai.eq_2)<|And.intro (@ai.eq_3)<|And.intro (@ai.eq_4)<|And.intro (@ai.eq_5)<|And.intro (@ai.eq_6)<|And.intro (@ai.eq_7)<|And.intro (@ai.eq_8)<|And.intro (@ai.eq_9)<|And.intro (@ai.eq_10)<|And.intro (@ai.eq_11)<|And.intro (@ai.eq_12)<|And.intro (@ai.eq_13)<|And.intro (@ai.eq_14)<|And.intro (@ai.eq_15)<|And.intro (@ai.eq_16)<|And.intro (@ai.eq_17)<|And.intro (@ai.eq_18)<|And.intro (@ai.eq_19)<|And.intro (@ai.eq_20)<|And.intro (@ai.eq_21)<|And.intro (@ai.eq_22)<|And.intro (@ai.eq_23)<|And.intro (@ai.eq_24)<|And.intro (@ai.eq_25)<|And.intro (@ai.eq_26)<|And.intro (@zS)<|And.intro (@sH)<|And.intro (@zU)<|And.intro (@sI)<|And.intro (@zV)<|And.intro (@zW)<|And.intro (@zX)<|And.intro (@sJ)<|And.intro (@zY)<|And.intro (@zZ)<|And.intro (@z1)<|And.intro (@kW)<|And.intro (@ai.eq_30)<|And.intro (@ai.eq_31)<|And.intro (@ai.eq_32)<|And.intro (@ai.eq_33)<|And.intro (@ai.eq_34)<|And.intro (@ai.eq_35)<|And.intro (@ai.eq_36)<|And.intro (@zP)<|And.intro (@zQ)<|And.intro (@sE)<|And.intro (@iY)<|And.intro (@gZ)<|And.intro (@sK)<|And.intro (@oc)<|And.intro (@od)<|And.intro (@sL)<|And.intro (@sM)<|And.intro (@pK)<|And.intro (@pL)<|And.intro (@Ac)<|And.intro (@Ad)<|And.intro (@Ae)<|And.intro (@Af)<|And.intro (@Ag)<|And.intro (@Ah)<|And.intro (@Ai)<|And.intro (@Aj)<|And.intro (@EI)<|And.intro (@Ak)<|And.intro (@Al)<|And.intro (@Am)<|And.intro (@Ao)<|And.intro (@Ap)<|And.intro (@Aq)<|And.intro (@Ar)<|And.intro (@As)<|And.intro (@Au)<|And.intro (@Av)<|And.intro (@Aw)<|And.intro (@Ax)<|And.intro (@Ay)<|(@Az)
theorem S2:type_of% (And.intro (@not_false_eq_true)<|And.intro (@ne_eq.{1})<|And.intro (@Nat.lt_succ_self)<|And.intro (@aZ)<|And.intro (@aM)<|And.intro (@cK)<|And.intro (@bN)<|And.intro (@ug)<|And.intro (@Ez)<|And.intro (@EA)<|And.intro (@EB)<|And.intro (@EC)<|And.intro (@List.nil_append.{0})<|And.intro (@List.append_nil.{0})<|And.intro (@List.cons_append.{0}) (@List.drop_nil.{0})):=And.intro (@not_false_eq_true)<|And.intro (@ne_eq.{1})<|And.intro (@Nat.lt_succ_self)<|And.intro (@aZ)<|And.intro (@aM)<|And.intro (@cK)<|And.intro (@bN)<|And.intro (@ug)<|And.intro (@Ez)<|And.intro (@EA)<|And.intro (@EB)<|And.intro (@EC)<|And.intro (@List.nil_append.{0})<|And.intro (@List.append_nil.{0})<|And.intro (@List.cons_append.{0}) (@List.drop_nil.{0})
theorem EJ (H:ae)(x:B):(H++[x]).length=H.length+1:=by simp
theorem Kj {b n:Nat}(h:b<n):(b<n+1)=True:=by simp;omega
theorem S3:type_of% (And.intro (@EJ)<|And.intro (@Kj) (@Nat.add_assoc)):=And.intro (@EJ)<|And.intro (@Kj) (@Nat.add_assoc)
end Go.Rmp
end
