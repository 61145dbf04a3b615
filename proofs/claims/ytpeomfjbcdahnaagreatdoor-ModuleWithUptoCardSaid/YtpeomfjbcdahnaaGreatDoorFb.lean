/-
  Operations, further: fields, indexes, lengths, append, maps, functions.
-/
import Derived.Test.YtpeomfjbcdahnaaGreatDoorFa
import Derived.Laws.StructEq
import Derived.Laws.BytesString
set_option linter.unusedSimpArgs false
set_option linter.unusedVariables false
namespace Fw
open Go
section
variable {P:Program}{a:Act}{o:Oper}{g:G}{w:World}{ρ:aX->V}{H:ao}{ns:Nat}
variable {t el:TypeId}{v:V}{x' i':aX}{i:Operand}{n:Nat}
theorem Ec{b:Bool}{cs:Array Value}{us:List V}{off:Nat}(hn:fD P t=some n)(hb:oj P t=some b)(hl:off+n<=us.length)(hv:aM g w us cs.toList)(hm:AX b ((us.drop off).take n)=some v)(h1:b=true\/n=1):∃x,(part t cs off).run P w=.ok x w/\RV g w v x:=by
 have cX:=(hv.drop off).take n;obtain⟨k1,k2⟩:=zu hm cX;have hlen:=hv.length;simp at hlen;cases b with
  |true=>refine⟨_,?_,k1⟩;simp only[part,Sem.run_bind,rF hb,Result.andThen_ok,abJ,cu hn,Sem.run_pure];congr 2;grind
  |false=>
   have Ud:n=1:=by grind
   subst Ud;have:off<cs.size:=by omega
   refine⟨cs[off],?_,?_⟩
   ·simp[part,rF hb,Array.getElem?_eq_getElem this]
   ·have e:(cs.toList.drop off).take 1=[cs[off]]:=by rw[abk (by grind)];simp
    grind
theorem HG{x:Operand}{f off:Nat}{fs:Array Field}(ho:o.op=.fieldAddr t x f)(ht:P.underlying t=some (.struct fs))(hf:ky P fs f=some (off,n))(h0:0<n)(hx:aw x=some x')(h:bw ρ H ns (.cJ off n x')=some (v,none))(ev:Ev ρ a g w)(hh:ax g w H):Good P a o g w ns v H:=by
 have hv:=ev _ _ hx;simp only[ky,aa7,aaB,aay]at hf;obtain⟨fd,hfd,s,hs,rfl,rfl⟩:=hf;have cG:=cu (P:=P) hs w;have fp:s≠0:=by omega
 have ep:∀aK off,a.eval x=.pointer (some ⟨aK,off,none⟩)->(execOp a.eval o).run P w=.ok (.value (.pointer (some ⟨aK,off+fd.offset,none⟩))) w:=by intro aK off he;simp[execOp,ho,he,Instr.fieldAt,run_underlying ht,hfd,Instr.sureAddr,fieldPlace,cG,fp,Addr.fF]
 simp only[bw]at h;split at h<;>simp only[aat,aay,reduceCtorEq]at h
 ·rename_i b hb q e;obtain⟨rfl,_⟩:=h;rw[e]at hv;simp only[RV]at hv;obtain⟨⟨⟨aK,off,h1⟩,hd⟩,h2⟩:=hv;refine Good.val hh (ep _ _ h1) ?_;simp_all[RV,Value.pointer.injEq,aat,Addr.mk.injEq,ab9]
 ·rename_i cs e;obtain⟨rfl,_⟩:=h;rw[e]at hv;simp only[RV]at hv;obtain⟨aK,off,h1,h2,h3⟩:=hv;refine Good.val hh (ep _ _ h1) ?_;simp only[RV];refine⟨_,_,rfl,fun hn=>h2 (by grind),?_ ⟩;clear h1 ep h2 e;suffices h:∀(k:Nat)(ds:List D)(q:Nat),cV w (cw g w) aK q ds->cV w (cw g w) aK (q+k) (ds.drop k)/\cV w (cw g w) aK q (ds.take k)from(h s _ _ (h fd.offset _ _ h3).1).2;intro k ds;induction ds generalizing k with
   |nil=>grind[cV]
   |cons d ds ih=>
    intro q hq;cases k with
     |zero=>simp_all[abi,List.take_zero,cV,aci]
     |succ k=>grind[cV]
theorem cV.drop{im:Nat->Prop}{aK:Nat}:∀{ds:List D}{q:Nat}(k:Nat),cV w im aK q ds->cV w im aK (q+k) (ds.drop k)
 |[],_,k,_=>by simp[cV]
 |d::ds,q,0,h=>by grind
 |d::ds,q,k+1,h=>by simp only[cV]at h;simp;rw[show q+(k+1)=q+1+k by omega];exact cV.drop k h.2
theorem HH{x:Operand}{sz:Nat}(ho:o.op=.indexAddr t x i)(ht:P.underlying t=some (.slice el))(hs:fD P el=some sz)(hx:aw x=some x')(hi:aw i=some i')(h:bw ρ H ns (.a_ sz x' i')=some (v,none))(ev:Ev ρ a g w)(hh:ax g w H):Good P a o g w ns v H:=by
 have hv:=ev _ _ hx;simp only[bw]at h;split at h
 ·cases h
 ·rename_i j ej;obtain⟨k,hk⟩:=er ej (ev _ _ hi);have ep:∀aK off len cap,a.eval x=.slice (some ⟨aK,off,none⟩) len cap->j<len->(execOp a.eval o).run P w=.ok (.value (.pointer (some ⟨aK,off+j*sz,none⟩))) w:=by
   intro aK off len cap he hj;have:((j:Int)<(len:Int)):=by omega
   simp[execOp,ho,he,Instr.indexAt,hk,asIntOf,run_underlying ht,hj,cu hs,Addr.fF]
  split at h
  ·rename_i es e;split at h
   ·rename_i d hd;cases hb:Nat.beq d.length sz with
     |false=>grind
     |true=>
      rw[hb]at h;simp at h;obtain⟨rfl,_⟩:=h;rw[e]at hv;simp only[RV,Rd]at hv;have hj:j<es.length:=(aaA.1 hd).1;rcases hv with⟨rfl,_⟩|⟨aK,off,cap,uq,h1,h2,h3,h4⟩
      ·simp at hj
      ·obtain⟨h5,h6⟩:=eD.get j h4 hd;have:uq=sz:=by simp_all
       subst this;refine Good.val hh (ep _ _ _ _ h1 hj) ?_;grind[RV]
   ·cases h
  ·rename_i b hb off len uq e;cases hc:(Nat.beq sz uq&&Nat.blt j len&&eL H b hb)with
    |false=>grind
    |true=>
     rw[hc]at h;simp at h;obtain⟨rfl,_⟩:=h;simp only[aas]at hc;have e1:=aav hc.1.1;subst e1;have hj:j<len:=by simp_all
     rw[e]at hv;rcases jt hc.2 hh with⟨aK,cp,hg⟩|⟨rfl,hg⟩
     ·obtain⟨cap,h1,h2,h3⟩:=RV.pV hv hg;refine Good.val hh (ep _ _ _ _ h1 hj) ?_;grind[RV,Option.some.injEq]
     ·obtain⟨_,rfl,_⟩:=RV.uw hv hg;omega
  ·cases h
theorem Ed{x:Operand}{len sz:Nat}(ho:o.op=.indexAddr t x i)(ht:P.underlying t=some (.array len el))(hs:fD P el=some sz)(hx:aw x=some x')(hi:aw i=some i')(h:bw ρ H ns (.rN len sz x' i')=some (v,none))(ev:Ev ρ a g w)(hh:ax g w H):Good P a o g w ns v H:=by
 have hv:=ev _ _ hx;simp only[bw]at h;split at h
 ·cases h
 ·rename_i j ej;obtain⟨k,hk⟩:=er ej (ev _ _ hi);cases hc:Nat.blt j len with
   |false=>grind
   |true=>
    rw[hc]at h;simp at h;have hj:j<len:=by simp_all
    have ep:∀aK off,a.eval x=.pointer (some ⟨aK,off,none⟩)->(execOp a.eval o).run P w=.ok (.value (.pointer (some ⟨aK,off+j*sz,none⟩))) w:=by intro aK off he;simp[execOp,ho,he,Instr.indexAt,hk,asIntOf,run_underlying ht,hj,cu hs,Addr.fF,Instr.sureAddr]
    split at h<;>simp only[aat,aay,reduceCtorEq]at h
    ·rename_i b hb q e;obtain⟨rfl,_⟩:=h;rw[e]at hv;simp only[RV]at hv;obtain⟨⟨⟨aK,off,h1⟩,hd⟩,h2⟩:=hv;refine Good.val hh (ep _ _ h1) ?_;simp_all[RV,Value.pointer.injEq,aat,Addr.mk.injEq,ab9]
    ·rename_i cs e;obtain⟨rfl,_⟩:=h;rw[e]at hv;simp only[RV]at hv;obtain⟨aK,off,h1,h2,h3⟩:=hv;refine Good.val hh (ep _ _ h1) ?_;simp only[RV];exact⟨_,_,rfl,fun hn=>h2 (by grind),cV.drop _ h3⟩
theorem K7{x:Operand}(ho:o.op=.index t x i)(ht:P.underlying t=some .string)(hx:aw x=some x')(hi:aw i=some i')(h:bw ρ H ns (.jh x' i')=some (v,none))(ev:Ev ρ a g w)(hh:ax g w H):Good P a o g w ns v H:=by
 have hv:=ev _ _ hx;simp only[bw]at h;split at h
 ·cases h
 ·rename_i j ej;obtain⟨k,hk⟩:=er ej (ev _ _ hi);split at h
  ·rename_i s e;split at h
   ·rename_i b hb;simp at h;obtain⟨rfl,_⟩:=h;rw[e]at hv;obtain⟨bs,h1,rfl⟩:=RV.str hv;refine Good.val (x:=.int .u8 b.toNat) hh ?_ (RV.zj _ _);have A6:bs[j]? =some b:=by
     have cA:=(aaA.1 hb).1;have U4:j<bs.size:=by simp_all
     rw[getElem?_pos bs j U4];have:=(aaA.1 hb).2;rw[←this];rfl
    simp[execOp,ho,h1,Instr.index,hk,asIntOf,run_underlying ht,A6]
   ·cases h
  ·cases h
theorem K8{x:Operand}{len sz j:Nat}{b:Bool}{cs:List V}(ho:o.op=.index t x i)(ht:P.underlying t=some (.array len el))(hs:fD P el=some sz)(hb:oj P el=some b)(h1:b=true\/sz=1)(hx:aw x=some x')(hi:aw i=some i')(ej:dh (ρ i')=some j)(e:ρ x'=.agg cs)(hj:j<len)(hl:len*sz<=cs.length)(hm:AX b ((cs.drop (j*sz)).take sz)=some v)(ev:Ev ρ a g w)(hh:ax g w H):Good P a o g w ns v H:=by
 have hv:=ev _ _ hx;rw[e]at hv;simp only[RV]at hv;obtain⟨z,h2,h3⟩:=hv;obtain⟨k,hk⟩:=er ej (ev _ _ hi);have hle:j*sz+sz<=cs.length:=by have:(j+1)*sz<=len*sz:=aa1 _ hj;grind
 obtain⟨y,h4,h5⟩:=Ec (P:=P) hs hb hle h3 hm h1;exact Good.val hh (by simp[execOp,ho,h2,Instr.index,hk,asIntOf,run_underlying ht,hj,cu hs,h4]) h5
theorem OF{x:Operand}{i:Nat}{vs:List V}(ho:o.op=.extract x i)(hx:aw x=some x')(e:ρ x'=.tuple vs)(hi:vs[i]? =some v)(ev:Ev ρ a g w)(hh:ax g w H):Good P a o g w ns v H:=by
 have hv:=ev _ _ hx;rw[e]at hv;simp only[RV]at hv;obtain⟨z,h2,h3⟩:=hv;obtain⟨y,h4,h5⟩:=h3.get i hi;have h4':z[i]? =some y:=by grind
 exact Good.val hh (by simp_all[execOp,Instr.extract]) h5
theorem iA(ev:Ev ρ a g w):∀{l:List Operand}{l':List aX},bS aw l=some l'->aM g w (bQ ρ l') (l.map a.eval)
 |[],l',h=>by grind[bS,bQ,aM]
 |x::xs,l',h=>by
  simp only[bS]at h;split at h
  ·cases h
  ·rename_i y hy;split at h
   ·cases h
   ·rename_i ys D4;simp at h;subst h;simp;exact⟨ev _ _ hy,iA ev D4⟩
theorem Ee{f:FuncId}{p q:Array Operand}{p' q':List aX}(ho:o.op=.makeFunc (.func f) p q)(hp:bS aw p.toList=some p')(hq:bS aw q.toList=some q')(ev:Ev ρ a g w)(hh:ax g w H):Good P a o g w ns (.func f (bQ ρ p') (bQ ρ q')) H:=by refine Good.val (x:=.func (.func f) (p.map a.eval) (q.map a.eval)) hh (by simp[execOp,ho,Instr.makeFunc]) ?_;simp only[RV];exact⟨_,_,rfl,by simpa using iA ev hp,by simpa using iA ev hq⟩
theorem HI(ho:o.op=.makeMap t none)(hh:ax g w H)(fC:gg g ns):Good P a o g w ns (.map ns) (aR H ns (.map [])):=by
 have he:=bA.new hh fC (.map #[] 0) (.obj w.heap.size) rfl;have h2:ax (g.add ns (.obj w.heap.size)) (w.alloc (.map #[] 0)) (aR H ns (.map [])):=by refine ax.new hh fC _ _ _ rfl ?_;simp only[RB];exact⟨#[],0,bf _ _,rfl,by simp,by simp,rfl⟩
 refine⟨_,_,.value (.map (some w.heap.size)),?_,.inl ⟨_,rfl,?_⟩,h2,he,fun _ h=>h⟩
 ·simp[execOp,ho,Instr.makeMap]
 ·simp only[RV];refine⟨⟨rfl,.inr rfl⟩,fun x hx=>?_ ⟩;grind[G.add]
theorem HJ{kt:TypeId}{x:Operand}{wr:Wr}(ho:o.op=.range t x)(ht:P.underlying t=some (.map kt el))(hx:aw x=some x')(h:bw ρ H ns (.range true x')=some (v,wr))(ev:Ev ρ a g w)(hh:ax g w H)(fC:gg g ns):Good P a o g w ns v (bn H wr):=by
 have hv:=ev _ _ hx;simp only[bw,aaw]at h;split at h
 ·rename_i b eb;rw[eb]at hv;simp only[RV]at hv;split at h
  ·rename_i es hg;simp at h;obtain⟨rfl,rfl⟩:=h;obtain⟨xb,oq⟩:=hh.back b _ hg;obtain⟨hd,y,hy,hr⟩:=hh.live b xb oq;rw[hg]at hy;simp at hy;subst hy;obtain⟨aK,rfl,xq⟩:=hv.2 xb oq;simp only[RB]at hr;obtain⟨bG,clock,h1,h2,h3,h4,h5⟩:=hr;have he:=bA.new hh fC (.mapIter (some aK) clock #[] clock) (.obj w.heap.size) rfl;have hbn:b≠ns:=by rintro rfl;exact fC hd
   have h2':ax (g.add ns (.obj w.heap.size)) (w.alloc (.mapIter (some aK) clock #[] clock)) (aR H ns (.bM b es.length [])):=by refine ax.new hh fC _ _ _ rfl ?_;simp only[RB];refine⟨aK,#[],by rw[←h2,←h5];exact bf _ _,rfl,.inl hd,fun x hx=>?_ ⟩;simp_all[G.add,aat]
   refine⟨_,_,.value (.pointer (some ⟨w.heap.size,0,none⟩)),?_,.inl ⟨_,rfl,?_⟩,h2',he,fun _ h=>h⟩
   ·simp[execOp,ho,Instr.range,run_underlying ht,xq,getObj,Sem.run,h1]
   ·simp only[RV];refine⟨⟨rfl,.inr rfl⟩,fun x hx=>?_ ⟩;grind[G.add]
  ·cases h
 ·cases h
theorem HK{x:Operand}{wr:Wr}(ho:o.op=.entry x)(hx:aw x=some x')(h:bw ρ H ns (.entry x')=some (v,wr))(ev:Ev ρ a g w)(hh:ax g w H):Good P a o g w ns v (bn H wr):=by
 have hv:=ev _ _ hx;simp only[bw]at h;split at h
 ·rename_i b m eb;rw[eb]at hv;simp only[RV]at hv;split at h
  ·rename_i m' n seen pR;split at h
   ·rename_i es ZR;cases hc:(Nat.beq m' m&&Nat.beq es.length n)with
     |false=>grind
     |true=>
      rw[hc]at h;simp at h;simp only[aas]at hc;obtain rfl:=aav hc.1;have hn:=aav hc.2;split at h
      ·rename_i i hi;split at h
       ·rename_i k u hk;simp at h;obtain⟨rfl,rfl⟩:=h;obtain⟨xb,oq⟩:=hh.back b _ pR;obtain⟨_,y,hy,hr⟩:=hh.live b xb oq;rw[pR]at hy;simp at hy;subst hy;obtain⟨aK,rfl,xq⟩:=hv.2 xb oq;simp only[RB]at hr;obtain⟨mb,sa,k1,k2,k3,k4⟩:=hr;obtain⟨xm,OG⟩:=hh.back m' _ ZR;obtain⟨_,y,hy,Ef⟩:=hh.live m' xm OG;rw[ZR]at hy;simp at hy;subst hy;obtain rfl:=k4 xm OG;simp only[RB]at Ef;obtain⟨bG,clock,m1,m2,m3,m4,m5⟩:=Ef;obtain⟨z,z1,z2,z3,z4⟩:=m3 i k u hk;have ZS:sa.back?=some i:=by grind
        have ZT:bG.find? (fun e=>e.born==i)=some z:=by have hb:=m4 i z z1;rw[Array.find?_eq_some_iff_getElem];obtain⟨cA,hz⟩:=aa6.1 z1;refine⟨by simp[hb],i,cA,hz,fun j hj=>?_ ⟩;have:=m4 j _ (Array.getElem?_eq_getElem (by omega));grind
        have K9:(clock !=n)=false:=by simp;omega
        refine Good.val (x:=.tuple #[z.key,z.val]) hh ?_ ?_;all_goals simp_all[execOp,Instr.entry,getObj,Sem.run,RV,aM]
       ·cases h
      ·cases h
   ·cases h
  ·cases h
 ·cases h
theorem Cj{d:TypeDesc}{x:Operand}(ho:o.op=.makeInterface t x)(ht:P.underlying t=some d)(hd:∀m,d≠ .interface m)(hx:aw x=some x')(ev:Ev ρ a g w)(hh:ax g w H):Good P a o g w ns (.iface t (ρ x')) H:=by refine Good.val (x:=.iface t (a.eval x)) hh ?_ (by simp only[RV];exact⟨_,rfl,ev _ _ hx⟩);cases d<;>simp_all[execOp,Instr.makeInterface,run_underlying ht]
def Eg(P:Program)(t:TypeId):km->Prop| .str=>P.underlying t=some .string| .slice=>∃e,P.underlying t=some (.slice e)| .map=>∃k e,P.underlying t=some (.map k e)| .arr _=>False
theorem vI{u:V}{v:Value}{k:km}{ty:TypeId}(h:jI H k u=some n)(hv:RV g w u v)(hh:ax g w H)(hk:Eg P t k):(Builtin.len_ #[t] ty #[v]).run P w=.ok (goInt n) w:=by
 cases k with
  |str=>
   simp only[Eg]at hk;cases u with
    |d x=>
     cases x with
      |str s=>simp only[jI,aat]at h;subst h;obtain⟨b,rfl,rfl⟩:=RV.str hv;simp[Builtin.len_,run_underlying hk]
      |_=>simp[jI]at h
    |_=>simp[jI]at h
  |slice=>
   obtain⟨e,he⟩:=hk;cases u with
    |d x=>
     cases x with
      |list es=>simp only[jI,aat]at h;subst h;simp only[RV,Rd]at hv;rcases hv with⟨rfl,rfl|⟨_,_,rfl⟩⟩|⟨aK,off,cap,sz,rfl,_⟩<;>simp[Builtin.len_,run_underlying he]
      |_=>simp[jI]at h
    |aj=>simp only[jI,aat]at h;subst h;simp only[RV]at hv;subst hv;simp[Builtin.len_,run_underlying he]
    |sl b hb off len sz=>
     simp only[jI]at h;cases hl:eL H b hb with
      |false=>grind
      |true=>
       rw[hl]at h;simp at h;subst h;rcases jt hl hh with⟨aK,cp,hg⟩|⟨rfl,hg⟩
       ·obtain⟨cap,rfl,_⟩:=RV.pV hv hg;simp[Builtin.len_,run_underlying he]
       ·obtain⟨_,rfl,_,rfl⟩:=RV.uw hv hg;simp[Builtin.len_,run_underlying he]
    |_=>simp[jI]at h
  |map=>
   obtain⟨kt,e,he⟩:=hk;cases u with
    |d x=>cases x<;>simp[jI]at h
    |kj=>simp only[jI,aat]at h;subst h;simp only[RV]at hv;subst hv;simp[Builtin.len_,run_underlying he]
    |map b=>
     simp only[jI]at h;split at h
     ·rename_i es hg;simp at h;subst h;obtain⟨x,hx⟩:=hh.back b _ hg;obtain⟨_,y,hy,hr⟩:=hh.live b x hx;rw[hg]at hy;simp at hy;subst hy;simp only[RV]at hv;obtain⟨aK,rfl,rfl⟩:=hv.2 x hx;simp only[RB]at hr;obtain⟨bG,clock,h1,h2,_⟩:=hr;simp[Builtin.len_,run_underlying he,getObj,Sem.run,h1,h2]
     ·cases h
    |_=>simp[jI]at h
  |arr=>exact hk.elim
theorem fu{sz:Nat}{u:V}{v:Value}{xs:List V}(h:bE H sz u=some xs)(hv:RV g w u v)(hh:ax g w H)(cG:0<sz):∃n vs,(Builtin.lenOf v).run P w=.ok n w/\(Builtin.firstCells sz n v).run P w=.ok vs.toArray w/\aM g w xs vs/\vs.length=n*sz:=by
 cases u with
  |aj=>simp_all[bE,aat,RV,Builtin.lenOf,Builtin.firstCells,aM]
  |d x=>
   cases x with
    |list es=>
     simp only[bE]at h;cases hc:es.all (fun e=>Nat.beq e.length sz)with
      |false=>grind
      |true=>
       rw[hc]at h;simp at h;subst h;rcases RV.list hv (vH hc)with⟨rfl,rfl|⟨_,_,rfl⟩⟩|⟨aK,off,cap,rfl,_,_,h4⟩
       ·simp_all[Builtin.lenOf,Builtin.firstCells,aM]
       ·simp_all[Builtin.lenOf,Builtin.firstCells,loadCells,loadCellsFrom,aM]
       ·have A7:∀(es:List (List D))(off:Nat),eD w (cw g w) aK off sz es->cV w (cw g w) aK off es.flatten:=by
         intro es;induction es with
          |nil=>grind[cV]
          |cons e es ih=>
           intro off h;simp only[eD]at h;obtain⟨q1,q2,q3⟩:=h;have bn:∀(ds OH:List D)(q:Nat),cV w (cw g w) aK q ds->cV w (cw g w) aK (q+ds.length) OH->cV w (cw g w) aK q (ds++OH):=by intro ds OH;induction ds<;>grind[cV]
           grind
        obtain⟨vs,k1,k2⟩:=cV.KR (A7 es off h4);have hlen:vs.length=es.length*sz:=by
         have:=k1.length;simp only[aaC]at this;rw[←this];have aab:∀(es:List (List D)),es.all (fun e=>Nat.beq e.length sz)=true->es.flatten.length=es.length*sz:=by
          clear this k1 k2 vs hv h4 A7 hc;intro es hc;induction es with
           |nil=>simp
           |cons e es ih=>simp only[aaM,aas]at hc;simp only[acC,aap,aaq];rw[ih hc.2,aav hc.1,abI];omega
         grind
        have:=run_loadCells_list (P:=P) w ⟨aK,off,none⟩ vs (fun j x hj=>by grind[Addr.fF]);simp_all[Builtin.lenOf,Builtin.firstCells]
    |str s=>
     simp only[bE]at h;cases hq:Nat.beq sz 1 with
      |false=>grind
      |true=>
       rw[hq]at h;have:=aav hq;subst this;simp at h;subst h;obtain⟨b,rfl,rfl⟩:=RV.str hv;refine⟨b.size,b.data.toList.map (fun x=>.int .u8 x.toNat),by simp[Builtin.lenOf],?_,?_,by simp⟩
       ·have e:b.extract 0 b.size=b:=by simp_all
        simp only[Builtin.firstCells,e,Sem.run_pure];congr 1;grind
       ·generalize b.data.toList=l;induction l with
         |nil=>simp[aM]
         |cons x l ih=>simp;exact⟨RV.zj _ _,ih⟩
    |_=>simp[bE]at h
  |sl b hb off len uq=>
   simp only[bE]at h;cases hq:Nat.beq sz uq with
    |false=>grind
    |true=>
     have e1:=aav hq;subst e1;rw[hq]at h;simp at h;cases hg:aA H b with
      |none=>grind
      |some y=>
       cases y with
        |cells cs=>
         simp only[hg]at h;cases hc:(Nat.beq cs.length hb&&Nat.ble (off+len*sz) hb)with
          |false=>grind
          |true=>
           rw[hc]at h;simp at h;subst h;simp only[aas]at hc;have e2:=aax hc.2;obtain⟨aK,cp,c,e,h1,h2,h3,h4,h5,h6,h7⟩:=kB hg hc.1 hh;obtain⟨cap,rfl,h8,h9⟩:=RV.pV hv h1;refine⟨len,((c.toList.take hb).drop off).take (len*sz),by simp[Builtin.lenOf],?_,(h7.drop off).take _,by simp;omega⟩;have hlen:(((c.toList.take hb).drop off).take (len*sz)).length=len*sz:=by simp;omega
           have:=run_loadCells_list (P:=P) w ⟨aK,off,none⟩ (((c.toList.take hb).drop off).take (len*sz)) (fun j x hj=>by grind[Addr.fF,World.cell?]);grind[Builtin.firstCells]
        |nil=>
         simp only[hg]at h;cases hc:Nat.beq len 0 with
          |false=>grind
          |true=>
           rw[hc]at h;simp at h;subst h;obtain⟨x,hx⟩:=hh.back b _ hg;obtain⟨_,y,hy,hr⟩:=hh.live b x hx;rw[hg]at hy;simp at hy;subst hy;cases x with
            |cells=>grind[RB]
            |obj=>grind[RB]
            |nil=>obtain⟨_,rfl,_,rfl⟩:=RV.uw hv hx;simp_all[Builtin.lenOf,Builtin.firstCells,aM]
        |_=>grind
  |_=>simp[bE]at h
end
end Fw
/-
  Operations, further: append.
-/
namespace Fw
open Go
section
variable {P:Program}{a:Act}{o:Oper}{g:G}{w:World}{ρ:aX->V}{H:ao}{ns:Nat}
variable {t u e ty:TypeId}{i:TypeInfo}
theorem iB{base:Option Addr}{dK jK n:Nat}{v:Value}{news:List Value}{w':World}(ht:P.underlying t=some (.slice e))(hu:(∃e2,P.underlying u=some (.slice e2))\/P.underlying u=some .string)(hi:P.info? e=some i)(hlen:(Builtin.lenOf v).run P w=.ok n w)(vJ:(Builtin.firstCells i.size n v).run P w=.ok news.toArray w)(xu:dK+n<=jK)(qK:∀a,base=some a->(storeCells (a.add (dK*i.size)) news).run P w=.ok () w')(hn:base=none->w'=w):(Builtin.append_ #[t,u] ty #[.slice base dK jK,v]).run P w=.ok (.slice base (dK+n) jK) w':=by
 cases base with
  |none=>have:=hn rfl;subst this;rcases hu with⟨e2,hu⟩|hu<;>simp[Builtin.append_,run_underlying ht,run_underlying hu,Go.sizeOf,typeInfo,hi,hlen,xu,vJ]
  |some b=>have:=qK b rfl;rcases hu with⟨e2,hu⟩|hu<;>simp[Builtin.append_,run_underlying ht,run_underlying hu,Go.sizeOf,typeInfo,hi,hlen,xu,vJ,this]
theorem ot{z:Value}{base:Option Addr}{dK jK n:Nat}{v:Value}{jL news:List Value}(ht:P.underlying t=some (.slice e))(hu:(∃e2,P.underlying u=some (.slice e2))\/P.underlying u=some .string)(hi:P.info? e=some i)(hz:i.zero=some z)(hlen:(Builtin.lenOf v).run P w=.ok n w)(vJ:(Builtin.firstCells i.size n v).run P w.drew=.ok news.toArray w.drew)(xw:(Builtin.firstCells i.size dK (.slice base dK jK)).run P w.drew=.ok jL.toArray w.drew)(hg:jK<dK+n)(Ue:((dK+n:Nat):Int)<=9223372036854775807)(K_:Builtin.nextslicecap (dK+n) jK*i.bytes<=281474976710656):(Builtin.append_ #[t,u] ty #[.slice base dK jK,v]).run P w=.ok (.slice (some ⟨w.heap.size,0,none⟩) (dK+n) (grownCap w (dK+n) jK e)) (w.drew.alloc (.cells (jL.toArray++news.toArray++Builtin.zeroCells z.cells (grownCap w (dK+n) jK e - (dK+n))) e)):=by
 have hn:¬(dK+n<=jK):=by omega
 have U5:¬(9223372036854775807<((dK:Int)+(n:Int))):=by omega
 have U6:¬(281474976710656<Builtin.nextslicecap (dK+n) jK*i.bytes):=by omega
 rcases hu with⟨e2,hu⟩|hu<;>simp[Builtin.append_,run_underlying ht,run_underlying hu,Go.sizeOf,typeInfo,zeroValue,hi,hz,hlen,hn,U5,U6,Question.forced,vJ,xw,newRow,grownCap]<;>(grind)
theorem eF(g:G)(w:World):bA g w g w.drew:=⟨rfl,rfl,rfl,aaE _,fun _ h=>⟨h,rfl⟩,fun _ h=>h,fun _ _=>GB.step.refl _,rfl,rfl,fun _ _=>rfl⟩
theorem ax.drew(hh:ax g w H):ax g w.drew H:=hh.ext (eF g w) (fun _ _ _ _ _=>rfl)
theorem Eh{zs:List V}{x y:Operand}{x' y':aX}{xs:List V}{v:V}{wr:Wr}(ho:o.op=.call {callee:=.builtin .append,args:= #[x,y],argTypes:= #[t,u]})(Uf:o.type=ty)(ht:P.underlying t=some (.slice e))(hu:(∃e2,P.underlying u=some (.slice e2))\/P.underlying u=some .string)(hi:P.info? e=some i)(hz:di P e=some zs)(h0:0<i.size)(UY:zs.length=i.size)(hx:aw x=some x')(hy:aw y=some y')(hs:bE H i.size (ρ y')=some xs)(ha:dM H ns i.size i.bytes (ρ x') xs=some (v,wr))(ev:Ev ρ a g w)(hh:ax g w H)(fC:gg g ns):Good P a o g w ns v (bn H wr):=by
 have cW:=ev _ _ hx;have eO:=ev _ _ hy;simp only[di,aa7]at hz;obtain⟨z,⟨i',jU,xp⟩,hm⟩:=hz;rw[hi]at jU;simp only[aat]at jU;subst jU;have La:z.cells.size=i.size:=by have:=bU hm;grind
 obtain⟨n,news,f1,f2,f3,f4⟩:=fu (P:=P) hs eO hh h0;obtain⟨n',et,f1',U7,JB,ZU⟩:=fu (P:=P) hs (RV.ext (eF g w) _ _ eO) hh.drew h0;have U8:n'=n:=by
  have e1:=JB.length;have e2:=f3.length;have:n'*i.size=n*i.size:=by omega
  exact abZ h0 this
 subst U8;have K3:xs.length=n'*i.size:=by rw[f3.length,f4]
 have rW:xs.length / i.size=n':=by simp_all
 unfold dM at ha;cases hb0:Nat.beq i.size 0 with
  |true=>grind
  |false=>
   rw[hb0]at ha;simp only[aaK]at ha;cases zk:Nat.beq (xs.length%i.size) 0 with
    |false=>grind
    |true=>
     rw[zk]at ha;simp only[ab0,aaK]at ha;cases kz:xs.all eC with
      |false=>grind
      |true=>
       rw[kz]at ha;simp only[ab0,aaK]at ha;have exec:∀(vx:Value)(r:Value)(w':World),a.eval x=vx->(Builtin.append_ #[t,u] ty #[vx,a.eval y]).run P w=.ok r w'->(execOp a.eval o).run P w=.ok (.value r) w':=by simp_all[execOp,resolve,invoke,builtin]
       have A8:∀(Lb:Option Addr)(dK jK:Nat)(jL:List Value)(HL:List V),a.eval x=.slice Lb dK jK->HL.length=jL.length->HL.all eC=true->jL.length=dK*i.size->(Builtin.firstCells i.size dK (.slice Lb dK jK)).run P w.drew=.ok jL.toArray w.drew->jK<dK+n'->((HL.length+xs.length)*(i.bytes+1)<=cf)->∃w' cap,(execOp a.eval o).run P w=.ok (.value (.slice (some ⟨w.heap.size,0,none⟩) (dK+n') cap)) w'/\w'=w.drew.alloc (.cells (jL.toArray++et.toArray++Builtin.zeroCells z.cells (cap - (dK+n'))) e)/\dK+n'<=cap/\(jL.toArray++et.toArray++Builtin.zeroCells z.cells (cap - (dK+n'))).size=cap*i.size:=by
        intro Lb dK jK jL HL e1 e2 e3 e4 e5 e6 e7;have hol:HL.length=dK*i.size:=by rw[e2,e4]
        have OI:(dK+n')*i.size=HL.length+xs.length:=by grind
        have hle:dK+n'<=HL.length+xs.length:=by rw[←OI];exact abo _ h0
        have hb:(dK+n')*i.bytes<=140737488355328:=by
         have e1:(dK+n')*i.bytes<=(HL.length+xs.length)*(i.bytes+1):=Nat.mul_le_mul hle (by omega);have e2:cf<=140737488355328:=by decide
         omega
        have Ue:dK+n'<=140737488355328:=by
         have e1:dK+n'<=(HL.length+xs.length)*(i.bytes+1):=abt hle (abo _ (by omega));have e2:cf<=140737488355328:=by decide
         omega
        have hr:=ot (ty:=ty) ht hu hi xp f1 U7 e5 e6 (by omega) (growslice_fits e6 hb);refine⟨_,_,exec _ _ _ e1 hr,rfl,grownCap_ge _ _ _ _,?_⟩;have OJ:=grownCap_ge w (dK+n') jK e;simp only[Array.size_append,List.size_toArray,size_zeroCells,La,e4,ZU,←abI];grind
       split at ha
       ·rename_i ex;rw[ex]at cW;simp only[RV]at cW;split at ha
        ·simp at ha;obtain⟨rfl,rfl⟩:=ha;have JC:n'=0:=by
          have ZV:n'*i.size=0:=by grind
          simp_all
         subst JC;have hr:=iB (ty:=ty) (base:=none) (dK:=0) (jK:=0) ht hu hi f1 f2 (aaE _) (fun a h=>by cases h) (fun _=>rfl);exact Good.val (x:=.slice none 0 0) hh (exec _ _ _ cW hr) (by simp only[RV])
        ·rename_i fp;cases hc:Nat.ble (xs.length*(i.bytes+1)) cf with
          |false=>grind
          |true=>
           rw[hc]at ha;simp at ha;obtain⟨rfl,rfl⟩:=ha;have kC:0<n':=by grind
           obtain⟨w',cap,k1,rfl,k3,k4⟩:=A8 none 0 0 [] [] cW rfl rfl (by simp) (by simp[Builtin.firstCells]) (by omega) (by simp_all);have he:=bA.new (w:=w.drew) hh.drew fC (.cells (([]:List Value).toArray++et.toArray++Builtin.zeroCells z.cells (cap - (0+n'))) e) (.cells w.heap.size (cap*i.size) xs.length) rfl;refine⟨_,_,_,k1,.inl ⟨_,rfl,?_⟩,ax.new hh.drew fC _ _ _ rfl ?_,(eF g w).trans he,fun _ h=>h⟩
           ·rw[rW,aaR];refine RV.xt (cp:=cap*i.size) (.inr rfl) (by simp[G.add]) (by omega) (by omega)
           ·simp only[RB];refine⟨trivial,kz,by grind,_,e,bf _ _,by grind,?_ ⟩;have:((([]:List Value).toArray++et.toArray++Builtin.zeroCells z.cells (cap - (0+n'))).toList).take xs.length=et:=by grind
            rw[this];exact aM.ext he _ _ JB
       ·rename_i b hb off len uq ex;cases hq:Nat.beq i.size uq with
         |false=>grind
         |true=>
          have e1:=aav hq;rw[hq]at ha;simp only[aaw]at ha;rw[ex]at cW;rw[←e1]at cW;split at ha
          ·rename_i cs hg;cases hc:(Nat.beq cs.length hb&&Nat.beq off 0&&Nat.beq (len*i.size) hb&&Nat.ble ((hb+xs.length)*(i.bytes+1)) cf)with
            |false=>grind
            |true=>
             rw[hc]at ha;simp only[aaw,aat,aay]at ha;obtain⟨rfl,rfl⟩:=ha;simp only[aas]at hc;have e2:=aav hc.1.1.2;subst e2;have e3:=aav hc.1.2;obtain⟨aK,cp,c,ce,Lc,h2,h3,h4,h5,h6,h7⟩:=kB hg hc.1.1.1 hh;obtain⟨cap,h8,h9,h10⟩:=RV.pV cW Lc;have xx:=RV.cr cW;by_cases xu:len+n'<=cap
             ·have K_:hb+xs.length<=cp:=by have:(len+n')*i.size<=cap*i.size:=aa1 _ xu;grind
              have qK:=run_storeCells_at P aK (len*i.size) ce news 0 c w h5 (by grind) (aM.one kz f3);simp only[aci]at qK;rw[←js _ _ _ (by grind),e3]at qK;have hr:=iB (ty:=ty) (base:=some ⟨aK,0,none⟩) ht hu hi f1 f2 xu (fun q hq=>by simp at hq;subst hq;rw[Addr.fF,aaR,e3];exact qK) (fun h=>by cases h);have hw:∀j,j≠aK->(w.setRow aK (putCells c.toList hb news).toArray).heap[j]? =w.heap[j]? :=fun j hj=>setRow_other w aK j _ hj
              have A9:GB.step (some (.cells aK cp hb)) (some (.cells aK cp (hb+xs.length))):=by
               by_cases hz:xs.length=0
               ·left;grind
               ·right;grind
              have JD:∀j,j<w.heap.size->some j≠some aK->(w.setRow aK (putCells c.toList hb news).toArray).heap[j]? =w.heap[j]? :=fun j _ hj=>hw j (fun e=>hj (by rw[e]))
              have he:bA g w (g.set b (.cells aK cp (hb+xs.length))) (w.setRow aK (putCells c.toList hb news).toArray):=bA.grow (hh.KV Lc rfl) Lc rfl A9 (.inl rfl) rfl rfl rfl (by simp) JD;refine⟨_,_,_,exec _ _ _ h8 hr,.inl ⟨_,rfl,?_⟩,ax.grow (x':=.cells aK cp (hb+xs.length)) hh _ Lc rfl (.inl rfl) he JD ?_,he,fun _ h=>.inl h⟩
              ·rw[rW];refine RV.xt (cp:=cp) xx (by simp[G.set]) (by omega) (by omega)
              ·simp only[RB];have Ce:∀(l:List Value)(i:Nat)(vs:List Value),(putCells l i vs).length=l.length:=by intro l i vs;induction vs generalizing l i<;>grind[putCells]
               refine⟨by simp;omega,by grind,by simp;omega,_,ce,setRow_heap w aK c _ ce _ h5,by grind,?_ ⟩;have e5:(putCells c.toList hb news).take (cs++xs).length=c.toList.take hb++news:=by rw[js _ _ _ (by grind)];grind
               rw[List.toList_toArray,e5];exact aM.append (aM.ext he _ _ h7) (aM.ext he _ _ f3)
             ·have xw:(Builtin.firstCells i.size len (.slice (some ⟨aK,0,none⟩) len cap)).run P w.drew=.ok (c.toList.take hb).toArray w.drew:=by
               have hl:(c.toList.take hb).length=len*i.size:=by simp;omega
               have:=run_loadCells_list (P:=P) w.drew ⟨aK,0,none⟩ (c.toList.take hb) (fun j x hj=>by
                rw[Addr.fF,aaR];rw[aa4]at hj;split at hj
                ·have h5':w.drew.heap[aK]? =some (.cells c ce (0,0)):=h5;grind[World.cell?]
                ·cases hj)
               grind[Builtin.firstCells]
              obtain⟨w',Cm,k1,rfl,k3,k4⟩:=A8 (some ⟨aK,0,none⟩) len cap (c.toList.take hb) cs h8 h7.length h2 (by simp;omega) xw (by omega) (by simp_all);have A9:GB.step (some (.cells aK cp hb)) (some (.cells w.heap.size (Cm*i.size) (hb+xs.length))):=by
               right;refine⟨_,_,_,rfl,?_⟩;have:0<xs.length:=by rw[K3];exact Nat.mul_pos (by omega) h0
               omega
              have JD:∀j,j<w.drew.heap.size->some j≠some aK->(w.drew.alloc (.cells ((c.toList.take hb).toArray++et.toArray++Builtin.zeroCells z.cells (Cm - (len+n'))) e)).heap[j]? =w.drew.heap[j]? :=fun j hj _=>ct _ _ hj
              have he:bA g w.drew (g.set b (.cells w.heap.size (Cm*i.size) (hb+xs.length))) (w.drew.alloc (.cells ((c.toList.take hb).toArray++et.toArray++Builtin.zeroCells z.cells (Cm - (len+n'))) e)):=bA.grow (hh.drew.KV Lc rfl) Lc rfl A9 (.inr ⟨_,rfl,aaE _⟩) rfl rfl rfl (by simp) JD;refine⟨_,_,_,k1,.inl ⟨_,rfl,?_⟩,ax.grow hh.drew _ Lc rfl (.inr ⟨_,rfl,aaE _⟩) he JD ?_,(eF g w).trans he,fun _ h=>.inl h⟩
              ·rw[rW];refine RV.xt (cp:=Cm*i.size) xx (by simp[G.set]) (by omega) (by omega)
              ·simp only[RB];refine⟨by simp;omega,by grind,?_,_,e,bf _ _,by grind,?_ ⟩
               ·grind
               ·have e5:((c.toList.take hb).toArray++et.toArray++Builtin.zeroCells z.cells (Cm - (len+n'))).toList.take (cs++xs).length=c.toList.take hb++et:=by grind
                rw[e5];exact aM.append (aM.ext ((eF g w).trans he) _ _ h7) (aM.ext he _ _ JB)
          ·rename_i hg;cases hc:(Nat.beq hb 0&&Nat.beq off 0&&Nat.beq len 0)with
            |false=>grind
            |true=>
             rw[hc]at ha;simp at ha;simp only[aas]at hc;have q1:=aav hc.1.1;have q2:=aav hc.1.2;have q3:=aav hc.2;subst q1;subst q2;subst q3;obtain⟨xb,oq⟩:=hh.back b _ hg;obtain⟨_,yb,Ld,hr⟩:=hh.live b xb oq;rw[hg]at Ld;simp at Ld;subst Ld;cases xb with
              |cells=>grind[RB]
              |obj=>grind[RB]
              |nil=>
               have xx:=RV.cr cW;obtain⟨_,_,_,ZW⟩:=RV.uw cW oq;split at ha
               ·simp at ha;obtain⟨rfl,rfl⟩:=ha;have JC:n'=0:=by
                 have ZV:n'*i.size=0:=by grind
                 rcases acj.1 ZV with h|h<;>omega
                subst JC;have ZX:=iB (ty:=ty) (base:=none) (dK:=0) (jK:=0) ht hu hi f1 f2 (aaE _) (fun a h=>by cases h) (fun _=>rfl);refine Good.val (x:=.slice none 0 0) hh (exec _ _ _ ZW ZX) ?_;grind
               ·rename_i fp;cases Ei:Nat.ble (xs.length*(i.bytes+1)) cf with
                 |false=>grind
                 |true=>
                  rw[Ei]at ha;simp at ha;obtain⟨rfl,rfl⟩:=ha;have kC:0<n':=by grind
                  obtain⟨w',cap,k1,rfl,k3,k4⟩:=A8 none 0 0 [] [] ZW rfl rfl (by simp) (by simp[Builtin.firstCells]) (by omega) (by simp_all);have OK:0<xs.length:=by grind
                  have JD:∀j,j<w.drew.heap.size->some j≠none->(w.drew.alloc (.cells (([]:List Value).toArray++et.toArray++Builtin.zeroCells z.cells (cap - (0+n'))) e)).heap[j]? =w.drew.heap[j]? :=fun j hj _=>ct _ _ hj
                  have he:bA g w.drew (g.set b (.cells w.heap.size (cap*i.size) xs.length)) (w.drew.alloc (.cells (([]:List Value).toArray++et.toArray++Builtin.zeroCells z.cells (cap - (0+n'))) e)):=bA.grow (hh.drew.KV oq rfl) oq rfl (.inr ⟨_,_,_,rfl,OK⟩) (.inr ⟨_,rfl,aaE _⟩) rfl rfl rfl (by simp) JD;refine⟨_,_,_,k1,.inl ⟨_,rfl,?_⟩,ax.grow hh.drew _ oq rfl (.inr ⟨_,rfl,aaE _⟩) he JD ?_,(eF g w).trans he,fun _ h=>.inl h⟩
                  ·rw[rW,aaR];refine RV.xt (cp:=cap*i.size) xx (by simp[G.set]) (by omega) (by omega)
                  ·simp only[RB];refine⟨trivial,kz,by grind,_,e,bf _ _,by grind,?_ ⟩;have:((([]:List Value).toArray++et.toArray++Builtin.zeroCells z.cells (cap - (0+n'))).toList).take xs.length=et:=by grind
                   rw[this];exact aM.ext he _ _ JB
          ·cases ha
       ·rename_i es ex;cases hc:(es.all (fun e=>Nat.beq e.length i.size)&& !xs.isEmpty&&Nat.ble ((es.flatten.length+xs.length)*(i.bytes+1)) cf)with
         |false=>grind
         |true=>
          rw[hc]at ha;simp only[aaw,aat,aay]at ha;obtain⟨rfl,rfl⟩:=ha;simp only[aas]at hc;rw[ex]at cW;simp only[RV]at cW;obtain⟨hd,a0,hv⟩:=cW;have OM:RV g w (.d (.list es)) (a.eval x):=by grind[RV]
          have U9:bE H i.size (.d (.list es))=some (es.flatten.map .d):=by simp only[bE,hc.1.1,aaw]
          obtain⟨m,jL,q1,q2,q3,q4⟩:=fu (P:=P) U9 (RV.ext (eF g w) _ _ OM) hh.drew h0;rw[hv]at q1 q2;have hm:m=es.length:=by simp_all[Builtin.lenOf]
          subst hm;have hlf:es.flatten.length=es.length*i.size:=by have:=q3.length;grind
          have kC:0<n':=by rcases acz n' with h|h;all_goals simp_all
          obtain⟨w',cap,k1,rfl,k3,k4⟩:=A8 a0 es.length es.length jL (es.flatten.map .d) hv q3.length (by simp[eC]) q4 q2 (by omega) (by rw[aaC];simp_all);have he:=bA.new (w:=w.drew) hh.drew fC (.cells (jL.toArray++et.toArray++Builtin.zeroCells z.cells (cap - (es.length+n'))) e) (.cells w.heap.size (cap*i.size) (es.flatten.length+xs.length)) rfl;have ON:(es.length+n')*i.size<=cap*i.size:=aa1 _ k3;rw[abI]at ON;refine⟨_,_,_,k1,.inl ⟨_,rfl,?_⟩,ax.new hh.drew fC _ _ _ rfl ?_,(eF g w).trans he,fun _ h=>h⟩
          ·rw[rW];refine RV.xt (cp:=cap*i.size) (.inr rfl) (by simp[G.add]) (by omega) (by omega)
          ·have hL:(es.flatten.map V.d++xs).length=es.flatten.length+xs.length:=by grind
           simp only[RB,hL];refine⟨trivial,by simp_all[List.all_append,eC],by omega,_,e,bf _ _,by grind,?_ ⟩;have e5:(jL.toArray++et.toArray++Builtin.zeroCells z.cells (cap - (es.length+n'))).toList.take (es.flatten.length+xs.length)=jL++et:=by grind
           rw[e5];exact aM.append (aM.ext he _ _ q3) (aM.ext he _ _ JB)
       ·cases ha
end
end Fw
/-
  Operations, further: maps, min and max; all together.
-/
namespace Fw
open Go
section
variable {P:Program}{a:Act}{o:Oper}{g:G}{w:World}{ρ:aX->V}{H:ao}{ns:Nat}
variable {kk:dn}{t:TypeId}{v:V}
def gh(P:Program)(t:TypeId):dn->Prop| .int=>∃k,P.underlying t=some (.int k)| .str=>P.underlying t=some .string| .bool=>P.underlying t=some .bool
theorem ou(h:gh P t kk)(e:Bool)(v:Value):(Instr.checkKey e 10000 t v).run P w=.ok () w:=by
 have key:∀n,(Instr.checkKey e (n+1) t v).run P w=.ok () w:=by
  intro n;cases kk with
   |int=>obtain⟨k,hk⟩:=h;simp[Instr.checkKey,run_underlying hk]
   |str=>simp only[gh]at h;simp[Instr.checkKey,run_underlying h]
   |bool=>simp only[gh]at h;simp[Instr.checkKey,run_underlying h]
 grind
theorem zx(s t:ByteArray):(s==t)=Fw.ah s.data.toList t.data.toList:=by
 have e:(s==t)=(s.data==t.data):=by cases s;cases t;rfl
 rw[e,cT];by_cases h:s.data=t.data;all_goals simp_all
theorem zy{d:TypeDesc}{k x:D}{kv xv:Value}{im:Nat->Prop}(ht:gh P t kk)(hd:P.underlying t=some d)(hk:gf kk k=true)(h1:Rd w im k kv)(h2:Rd w im x xv){b:Bool}(h:AY k x=some b):Instr.sameNow d kv xv=some b:=by
 cases kk with
  |int=>
   obtain⟨ik,Ej⟩:=ht;rw[hd]at Ej;simp at Ej;subst Ej;cases k with
    |int k1 n1=>cases x<;>grind[Rd,AY,Instr.sameNow]
    |_=>grind[gf]
  |str=>
   simp only[gh]at ht;rw[hd]at ht;simp at ht;subst ht;cases k with
    |str k1=>cases x<;>grind[Rd,AY,Option.some.injEq,Instr.sameNow,zx]
    |_=>grind[gf]
  |bool=>
   simp only[gh]at ht;rw[hd]at ht;simp at ht;subst ht;cases k with
    |bool k1=>cases x<;>grind[Rd,AY,Instr.sameNow]
    |_=>grind[gf]
def RM(g:G)(w:World):List (D×V)->List MapEntry->Prop|[],[]=>True|(k,v)::es,x::xs=>(Rd w (cw g w) k x.key/\RV g w v x.val)/\RM g w es xs|_,_=>False
theorem lH{kk:dn}{t:TypeId}{d:TypeDesc}{k:D}{kv:Value}(ht:gh P t kk)(hd:P.underlying t=some d)(hk:gf kk k=true)(h1:Rd w (cw g w) k kv):∀{es:List (D×V)}{xs:List MapEntry}{i:Nat}{r:Option (Nat×V)},RM g w es xs->qI k es i=some r->(r=none/\Instr.findNow d kv xs i=some none)\/∃j v x,r=some (i+j,v)/\xs[j]? =some x/\Instr.findNow d kv xs i=some (some (i+j,x.val))/\RV g w v x.val/\Instr.sameNow d kv x.key=some true/\j<es.length
 |[],[],i,r,_,h=>by simp[qI]at h;subst h;exact .inl ⟨rfl,rfl⟩
 |(k2,v2)::es,x::xs,i,r,hm,h=>by
  simp only[RM]at hm;simp only[qI]at h;cases hb:AY k k2 with
   |none=>grind
   |some b=>
    have hs:=zy ht hd hk h1 hm.1.1 hb;cases b with
     |true=>simp[hb]at h;subst h;exact .inr ⟨0,v2,x,rfl,rfl,by simp[Instr.findNow,hs],hm.1.2,hs,by simp⟩
     |false=>
      simp only[hb]at h;rcases lH ht hd hk h1 hm.2 h with⟨e1,e2⟩|⟨j,v,y,e1,e2,e3,e4,e5,e6⟩
      ·grind[Instr.findNow]
      ·refine .inr ⟨j+1,v,y,by grind,by grind,?_,e4,e5,by simp;omega⟩;grind[Instr.findNow]
 |[],_::_,_,_,h,_=>by grind[RM]
 |_::_,[],_,_,h,_=>by grind[RM]
theorem RM.of{es:List (D×V)}{bG:Array MapEntry}(hs:bG.size=es.length)(h:∀(i:Nat)(k:D)(v:V),es[i]? =some (k,v)->∃x,bG[i]? =some x/\Rd w (cw g w) k x.key/\RV g w v x.val):RM g w es bG.toList:=by
 have hl:es.length=bG.toList.length:=by simp[hs]
 have h':∀(i:Nat)(k:D)(v:V),es[i]? =some (k,v)->∃x,bG.toList[i]? =some x/\Rd w (cw g w) k x.key/\RV g w v x.val:=by grind
 clear h hs;(generalize bG.toList=xs at*);induction es generalizing xs with
  |nil=>grind[RM]
  |cons e es ih=>
   obtain⟨k,v⟩:=e;cases xs with
    |nil=>simp at hl
    |cons x xs=>simp only[RM];obtain⟨y,hy,h1,h2⟩:=h' 0 k v rfl;simp at hy;subst hy;exact⟨⟨h1,h2⟩,ih xs (by grind) (fun i k v hi=>h' (i+1) k v (by grind))⟩
theorem rX{kt el:TypeId}{m k:Operand}{m' k':aX}{z:V}{ok:Bool}(ho:o.op=.lookup t m k ok)(ht:P.underlying t=some (.map kt el))(ow:gh P kt kk)(hz:D3 P el=some z)(hm:aw m=some m')(hk:aw k=some k')(h:bw ρ H ns (.lookup kk z ok m' k')=some (v,none))(ev:Ev ρ a g w)(hh:ax g w H):Good P a o g w ns v H:=by
 have Le:=ev _ _ hm;have Ek:=ev _ _ hk;simp only[D3,aa7]at hz;obtain⟨zv,⟨i,hi,ZY⟩,xp⟩:=hz;have U':RV g w z zv:=D6 xp;simp only[bw]at h;split at h
 ·rename_i kd ek;cases Em:gf kk kd with
   |false=>grind
   |true=>
    rw[Em]at h;simp at h;split at h
    ·rename_i es Lf;rw[ek]at Ek;simp only[RV]at Ek;have hd:∃d,P.underlying kt=some d:=by
      cases kk with
       |int=>obtain⟨q,hq⟩:=ow;grind
       |str=>exact⟨_,ow⟩
       |bool=>exact⟨_,ow⟩
     obtain⟨d,hd⟩:=hd;have U_:∃xs:Array MapEntry,RM g w es xs.toList/\((a.eval m=.map none/\xs= #[])\/∃r clock,a.eval m=.map (some r)/\w.heap[r]? =some (.map xs clock)):=by
      cases hmv:ρ m' with
       |kj=>grind[RV,qJ,Option.some.injEq,RM]
       |map b=>
        rw[hmv]at Le Lf;simp only[qJ]at Lf;split at Lf
        ·rename_i OH hg;simp at Lf;subst Lf;obtain⟨x,hx⟩:=hh.back b _ hg;obtain⟨_,y,hy,hr⟩:=hh.live b x hx;rw[hg]at hy;simp at hy;subst hy;simp only[RV]at Le;obtain⟨aK,rfl,HM⟩:=Le.2 x hx;simp only[RB]at hr;obtain⟨bG,clock,h1,h2,h3,h4,h5⟩:=hr;exact⟨bG,RM.of h2 (fun i k v hi=>by grind),.inr ⟨aK,clock,HM,h1⟩⟩
        grind
       |_=>grind[qJ]
     obtain⟨xs,Ef,D8⟩:=U_;have K9:=fun b=>ou (P:=P) (w:=w) ow b (a.eval k)
     split at h
     ·rename_i j u hf;simp at h;rcases lH ow hd Em Ek Ef hf with⟨e1,_⟩|⟨j',v',x,e1,e2,e3,e4,_⟩
      ·cases e1
      ·simp at e1;obtain⟨_,rfl⟩:=e1;refine Good.val (x:=if ok then .tuple #[x.val,.bool true]else x.val) hh ?_ ?_
       ·rcases D8 with⟨q1,rfl⟩|⟨r,clock,q1,q2⟩
        ·grind
        ·simp[execOp,ho,Instr.lookup,run_underlying ht,q1,getObj,Sem.run,q2,K9,Instr.findKey,run_underlying hd,e3]
       ·rw[←h];cases ok with
         |true=>simp;exact⟨_,rfl,by simp;exact⟨e4,RV.A1 _,trivial⟩⟩
         |false=>grind
     ·rename_i hf;simp at h;rcases lH ow hd Em Ek Ef hf with⟨_,e3⟩|⟨j',v',x,e1,_⟩
      ·refine Good.val (x:=if ok then .tuple #[zv,.bool false]else zv) hh ?_ ?_
       ·rcases D8 with⟨q1,rfl⟩|⟨r,clock,q1,q2⟩
        ·have Vc:=K9 true;simp[execOp,ho,Instr.lookup,run_underlying ht,q1,Vc,Instr.findKey,run_underlying hd,Instr.findNow,oo hi ZY]
        ·simp[execOp,ho,Instr.lookup,run_underlying ht,q1,getObj,Sem.run,q2,K9,Instr.findKey,run_underlying hd,e3,oo hi ZY]
       ·rw[←h];cases ok with
         |true=>simp;exact⟨_,rfl,by simp;exact⟨U',RV.A1 _,trivial⟩⟩
         |false=>grind
      ·cases e1
     ·cases h
    ·cases h
 ·cases h
theorem nf(w:World)(k:Nat)(x:Obj)(h:k<w.heap.size):({w with heap:=w.heap.setIfInBounds k x}:World).heap[k]? =some x:=by simp[h]
theorem lI(w:World)(k j:Nat)(x:Obj)(h:j≠k):({w with heap:=w.heap.setIfInBounds k x}:World).heap[j]? =w.heap[j]? :=by grind
theorem xy{d:TypeDesc}{kv xv:Value}(ht:gh P t kk)(hd:P.underlying t=some d)(h:Instr.sameNow d kv xv=some true):Instr.sameBits 10000 xv kv=true:=by
 have Lg:(∃q,d=.int q)\/d=.string\/d=.bool:=by cases kk<;>grind[Option.some.injEq,gh]
 rcases Lg with⟨q,rfl⟩|rfl|rfl
 ·cases kv<;>cases xv<;>simp[Instr.sameNow]at h;grind[Instr.sameBits]
 ·cases kv<;>cases xv<;>simp[Instr.sameNow]at h;grind[zx,cT,Instr.sameBits]
 ·cases kv<;>cases xv<;>simp[Instr.sameNow]at h;grind[Instr.sameBits]
theorem rY{kt el:TypeId}{m k x:Operand}{m' k' x':aX}{wr:Wr}(ho:o.op=.mapUpdate t m k x)(ht:P.underlying t=some (.map kt el))(ow:gh P kt kk)(hm:aw m=some m')(hk:aw k=some k')(hx:aw x=some x')(h:bw ρ H ns (.iO kk m' k' x')=some (v,wr))(ev:Ev ρ a g w)(hh:ax g w H):Good P a o g w ns v (bn H wr):=by
 have Le:=ev _ _ hm;have Ek:=ev _ _ hk;have cW:=ev _ _ hx;simp only[bw]at h;split at h
 ·rename_i b kd em ek;cases Em:gf kk kd with
   |false=>grind
   |true=>
    rw[Em]at h;simp at h;split at h
    ·rename_i es hg;rw[ek]at Ek;rw[em]at Le;simp only[RV]at Ek Le;have hd:∃d,P.underlying kt=some d:=by
      cases kk with
       |int=>obtain⟨q,hq⟩:=ow;grind
       |str=>exact⟨_,ow⟩
       |bool=>exact⟨_,ow⟩
     obtain⟨d,hd⟩:=hd;obtain⟨xb,oq⟩:=hh.back b _ hg;obtain⟨_,y,hy,hr⟩:=hh.live b xb oq;rw[hg]at hy;simp at hy;subst hy;obtain⟨aK,rfl,HM⟩:=Le.2 xb oq;simp only[RB]at hr;obtain⟨bG,clock,h1,h2,h3,h4,h5⟩:=hr;have cA:aK<w.heap.size:=(aa6.1 h1).1;have Ef:RM g w es bG.toList:=RM.of h2 (fun i k v hi=>by grind);have K9:=fun b=>ou (P:=P) (w:=w) ow b (a.eval k)
     have rn:∀o',bA g w g {w with heap:=w.heap.setIfInBounds aK o'}:=fun o'=>bA.write oq rfl (hh.qL oq rfl) rfl rfl rfl (by simp) (fun j hj=>lI w aK j o' hj)
     split at h
     ·rename_i j u hf;simp at h;obtain⟨rfl,rfl⟩:=h;rcases lH ow hd Em Ek Ef hf with⟨e1,_⟩|⟨j',v',x0,e1,e2,e3,e4,e5,e6⟩
      ·cases e1
      ·simp at e1;obtain⟨rfl,rfl⟩:=e1;rw[aaR]at e3;have e2':bG[j]? =some x0:=by grind
       have hsb:=xy ow hd e5;refine⟨g,_,.skip,?_,.inr ⟨rfl,rfl⟩,?_,rn (.map (bG.modify j fun e=>{e with key:=a.eval k,val:=a.eval x}) clock),fun _ h=>.inl h⟩
       ·simp[execOp,ho,Instr.mapUpdate,run_underlying ht,HM,getObj,setObj,Sem.run,h1,K9,Instr.findKey,run_underlying hd,e3,e2',Instr.keyThatStays,hsb]
       ·refine ax.write hh _ oq rfl (rn _) (fun q hq=>lI w aK q _ hq) ?_;simp only[RB];refine⟨_,clock,nf w aK _ cA,by simp[h2],fun i k2 v2 hi=>?_,?_ ⟩
        ·by_cases Hl:i=j
         ·subst Hl;rw[List.getElem?_set_self (by omega)]at hi;simp at hi;obtain⟨rfl,rfl⟩:=hi;refine⟨{x0 with key:=a.eval k,val:=a.eval x},by grind,?_,Rd.keeps (rn _).keeps _ _ Ek,RV.ext (rn _) _ _ cW⟩;grind
         ·rw[List.getElem?_set_ne (by omega)]at hi;obtain⟨z,z1,z2,z3,z4⟩:=h3 i k2 v2 hi;exact⟨z,by grind,z2,Rd.keeps (rn _).keeps _ _ z3,RV.ext (rn _) _ _ z4⟩
        grind
     ·rename_i hf;simp at h;obtain⟨rfl,rfl⟩:=h;rcases lH ow hd Em Ek Ef hf with⟨_,e3⟩|⟨j',v',x0,e1,_⟩
      ·refine⟨g,_,.skip,?_,.inr ⟨rfl,rfl⟩,?_,rn (.map (bG.push {key:=a.eval k,val:=a.eval x,born:=clock}) (clock+1)),fun _ h=>.inl h⟩
       ·simp[execOp,ho,Instr.mapUpdate,run_underlying ht,HM,getObj,setObj,Sem.run,h1,K9,Instr.findKey,run_underlying hd,e3]
       ·refine ax.write hh _ oq rfl (rn _) (fun q hq=>lI w aK q _ hq) ?_;simp only[RB];refine⟨_,clock+1,nf w aK _ cA,by simp[h2],fun i k2 v2 hi=>?_,?_ ⟩
        ·by_cases Hl:i<es.length
         ·rw[abD Hl]at hi;obtain⟨z,z1,z2,z3,z4⟩:=h3 i k2 v2 hi;have zA:i<bG.size:=by omega
          exact⟨z,by grind,by omega,Rd.keeps (rn _).keeps _ _ z3,RV.ext (rn _) _ _ z4⟩
         ·have ZZ:i=es.length:=by grind
          subst ZZ;rw[abv (aaE _)]at hi;simp at hi;obtain⟨rfl,rfl⟩:=hi;exact⟨{key:=a.eval k,val:=a.eval x,born:=clock},by grind,by simp,Rd.keeps (rn _).keeps _ _ Ek,RV.ext (rn _) _ _ cW⟩
        grind
      ·cases e1
     ·cases h
    ·cases h
 ·cases h
theorem ux{isMax:Bool}{k:IntKind}:∀{l:List V}{xs:List Value}{n r:Int},aM g w l xs->nG isMax n l k=some r->(xs.foldlM (if isMax then Builtin.max2 else Builtin.min2) (.int k n)).run P w=.ok (.int k r) w
 |[],[],n,r,_,h=>by simp_all[nG]
 |v::l,x::xs,n,r,hv,h=>by
  simp only[aM]at hv;cases v with
   |d y=>
    cases y with
     |int k2 m=>
      simp only[nG]at h;split at h
      ·rename_i hk;subst hk;have hx:=RV.int hv.1;subst hx;have ih:=ux hv.2 h;simp;cases isMax with
        |true=>simp_all[Builtin.max2,Sem.run_pure,Result.andThen_ok]
        |false=>simp_all[abA,Builtin.min2,Sem.run_pure,Result.andThen_ok]
      ·cases h
     |_=>simp[nG]at h
   |_=>simp[nG]at h
 |[],_::_,_,_,h,_=>by grind[aM]
 |_::_,[],_,_,h,_=>by grind[aM]
theorem xz{isMax:Bool}{args:Array Operand}{ts:Array TypeId}{l:List aX}(ho:o.op=.call {callee:=.builtin (if isMax then .max else .min),args:=args,argTypes:=ts})(hl:bS aw args.toList=some l)(h:bw ρ H ns (.nF isMax l)=some (v,none))(ev:Ev ρ a g w)(hh:ax g w H):Good P a o g w ns v H:=by
 have cX:=iA ev hl;simp only[bw]at h;split at h
 ·rename_i k n zB e;simp at h;obtain⟨r,hr,rfl⟩:=h;rw[e]at cX;cases hx:args.toList.map a.eval with
   |nil=>grind[aM]
   |cons x xs=>
    rw[hx]at cX;simp only[aM]at cX;have N4:=RV.int cX.1;subst N4;have hf:=ux (P:=P) cX.2 hr;have gW:(args.map a.eval).toList=.int k n::xs:=by simp_all
    refine Good.val hh ?_ (RV.zj k r);cases isMax with
     |true=>simp_all[Builtin.max_,execOp,resolve,invoke,builtin]
     |false=>simp_all[Builtin.min_,execOp,resolve,invoke,builtin]
 ·cases h
end
end Fw
/-
  Operations, further: structs held against structs, the bytes of a string, make.
-/
namespace Fw
open Go
section
variable {P:Program}{a:Act}{o:Oper}{g:G}{w:World}{ρ:aX->V}{H:ao}{ns:Nat}
variable {t e:TypeId}{x':aX}{k:dn}{w:World}{n:Nat}{v:V}{wr:Wr}
theorem zC(h:vE P t=some k):gh P t k:=by
 unfold vE at h;split at h<;>simp only[aat,reduceCtorEq]at h<;>subst h
 ·rename_i q hq;exact⟨q,hq⟩
 ·rename_i hq;exact hq
 ·rename_i hq;exact hq
theorem tS{x y:D}{vx vy:Value}{im:Nat->Prop}{b:Bool}(ht:gh P t k)(hk:gf k x=true)(h:AY x y=some b)(h1:Rd w im x vx)(h2:Rd w im y vy)(d:Nat):(Op.equalIn (d+1) t vx vy).run P w=.ok b w:=by
 cases k with
  |int=>obtain⟨q,hq⟩:=ht;cases x<;>simp[gf]at hk;cases y<;>simp[AY]at h;obtain⟨rfl,rfl⟩:=h;simp only[Rd]at h1 h2;subst h1;subst h2;simp[Op.equalIn,run_underlying hq]
  |str=>simp only[gh]at ht;cases x<;>simp[gf]at hk;cases y<;>simp[AY]at h;simp only[Rd]at h1 h2;obtain⟨s1,rfl,rfl⟩:=h1;obtain⟨s2,rfl,rfl⟩:=h2;have:=zx s1 s2;rw[h]at this;simp[Op.equalIn,run_underlying ht,this]
  |bool=>simp only[gh]at ht;cases x<;>simp[gf]at hk;cases y<;>simp[AY]at h;subst h;simp only[Rd]at h1 h2;subst h1;subst h2;simp[Op.equalIn,run_underlying ht]
theorem xA(h:gh P t k):(isAgg t).run P w=.ok false w:=by
 cases k with
  |int=>obtain⟨q,hq⟩:=h;simp[isAgg,run_underlying hq]
  |str=>simp only[gh]at h;simp[isAgg,run_underlying h]
  |bool=>simp only[gh]at h;simp[isAgg,run_underlying h]
theorem qN(d:Nat){xs ys:Array Value}:∀{fs:List Field}{n:Nat}{ks:List dn}{us vs:List V}{b:Bool},gU P n fs=some ks->iQ ks us vs=some b->aM g w us (xs.toList.drop n)->aM g w vs (ys.toList.drop n)->(Op.eqFields (d+1) xs ys fs).run P w=.ok b w
 |[],n,ks,us,vs,b,h1,h2,_,_=>by simp only[gU,aat]at h1;subst h1;cases us<;>cases vs<;>simp[iQ]at h2;simp_all[Op.eqFields]
 |f::fs,n,ks,us,vs,b,h1,h2,h3,h4=>by
  simp only[gU]at h1;split at h1
  ·rename_i hc;split at h1
   ·rename_i k ks' hk Cn;simp at h1;subst h1;cases us with
     |nil=>grind[iQ]
     |cons u us=>
      obtain⟨x,rfl⟩:∃x,u=.d x:=by cases u<;>first|exact⟨_,rfl⟩|grind[iQ]
      cases vs with
       |nil=>grind[iQ]
       |cons v vs=>
        obtain⟨y,rfl⟩:∃y,v=.d y:=by cases v<;>first|exact⟨_,rfl⟩|grind[iQ]
        simp only[iQ]at h2;cases Em:gf k x with
         |false=>grind
         |true=>
          rw[Em]at h2;simp at h2;have ow:=zC hk;have cell:∀(zs:Array Value)(z:D)(ws:List V),aM g w (.d z::ws) (zs.toList.drop n)->∃c,zs[n]? =some c/\Rd w (cw g w) z c/\aM g w ws (zs.toList.drop (n+1)):=by
           intro zs z ws h;cases hd:zs.toList.drop n with
            |nil=>grind[aM]
            |cons c cs=>
             rw[hd]at h;simp only[aM,RV]at h;refine⟨c,?_,h.1,?_⟩
             ·have:(zs.toList.drop n)[0]? =some c:=by grind
              grind
             ·have:zs.toList.drop (n+1)=cs:=by rw[←acx,hd];rfl
              grind
          obtain⟨c1,a1,a2,a3⟩:=cell xs x us h3;obtain⟨c2,b1,b2,b3⟩:=cell ys y vs h4;have DQ:=xA (P:=P) (w:=w) ow;have p1:(part f.type xs f.offset).run P w=.ok c1 w:=by simp_all[part]
          have p2:(part f.type ys f.offset).run P w=.ok c2 w:=by simp_all[part]
          simp only[Op.eqFields,hc.2,ne_eq,not_false_eq_true,abJ,Sem.run_bind,p1,p2,Result.andThen_ok];cases Z0:AY x y with
           |none=>grind
           |some r=>
            rw[tS ow Em Z0 a2 b2 d];rw[Z0]at h2;cases r with
             |true=>simp only at h2;simp;exact qN d Cn h2 a3 b3
             |false=>simp_all
   ·cases h1
  ·cases h1
theorem JE{op:BinOp}{yt:TypeId}{x y:Operand}{y':aX}{ks:List dn}{us vs:List V}{b neg:Bool}(ho:o.op=.binOp op t x y yt)(fX:(op=.eql/\neg=false)\/(op=.neq/\neg=true))(hp:jr P t=some ks)(hx:aw x=some x')(hy:aw y=some y')(e1:ρ x'=.agg us)(e2:ρ y'=.agg vs)(h:iQ ks us vs=some b)(ev:Ev ρ a g w)(hh:ax g w H):Good P a o g w ns (.d (.bool (bif neg then !b else b))) H:=by
 have cW:=ev _ _ hx;have eO:=ev _ _ hy;rw[e1]at cW;rw[e2]at eO;simp only[RV]at cW eO;obtain⟨xs,f1,r1⟩:=cW;obtain⟨ys,f2,r2⟩:=eO;unfold jr at hp;split at hp
 ·rename_i fs hu;split at hp
  ·rename_i hc;have Hk:P.fieldsOf t=fs:=by simp[Program.fieldsOf,hu]
   have key:∀d,(Op.equalIn (d+2) t (.agg xs) (.agg ys)).run P w=.ok b w:=by intro d;rw[run_equalIn_struct w (d+1) t xs ys (by grind) hc.1,Hk];exact qN d hp h (by simpa using r1) (by grind)
   have heq:(Op.equal t (.agg xs) (.agg ys)).run P w=.ok b w:=key 9998;have lx:(eqGuard op t x y (.agg xs) (.agg ys)).run P w=.ok () w:=run_eqGuard_agg w op t x y xs ys hc.2;refine Good.val (x:=.bool (bif neg then !b else b)) hh ?_ (RV.A1 _);rcases fX with⟨rfl,rfl⟩|⟨rfl,rfl⟩<;>simp[execOp,ho,f1,f2,lx,binOp,heq]
  ·cases hp
 ·cases hp
theorem kD{b o k:Nat}(h:k≠b):(w.freeze ⟨b,o,none⟩ n).heap[k]? =w.heap[k]? :=by unfold World.freeze;grind
theorem lJ{a:Addr}:(w.freeze a n).heap.size=w.heap.size:=by unfold World.freeze;grind
theorem bA.uy{g:G}{H:ao}(hh:ax g w H)(o:Obj)(q n:Nat):bA g w g ((w.alloc o).freeze ⟨w.heap.size,q,none⟩ n):=by
 have hk:∀k,k<w.heap.size->((w.alloc o).freeze ⟨w.heap.size,q,none⟩ n).heap[k]? =w.heap[k]? :=by intro k hk;rw[kD (by omega),ct _ _ hk]
 have h1:∀(w':World)(a:Addr),(w'.freeze a n).os=w'.os/\(w'.freeze a n).tape=w'.tape/\(w'.freeze a n).output=w'.output:=by intro w' a;unfold World.freeze;grind
 obtain⟨e1,e2,e3⟩:=h1 (w.alloc o) ⟨w.heap.size,q,none⟩;refine⟨e1,e2,e3,by grind,fun k pX=>⟨⟨by rw[lJ];have:=pX.1;simp;omega,pX.2⟩,hk k pX.1⟩,fun _ h=>h,fun _ _=>GB.step.refl _,rfl,rfl,fun k pX=>hk k (hh.fo k pX).1⟩
theorem run_mark(c:Array Value)(e:TypeId)(w:World):(markStringish ⟨w.heap.size,0,none⟩).run P (w.alloc (.cells c e))=.ok () ((w.alloc (.cells c e)).freeze ⟨w.heap.size,c.size,none⟩ 1):=by
 have h:(w.alloc (.cells c e)).shape? w.heap.size=some (e,c.size):=by unfold World.shape?;rw[bf]
 grind[markStringish,Sem.run_bind,run_shape,Result.andThen_ok,run_freeze]
theorem zE{s d:TypeId}{x:Operand}{l:List UInt8}(ho:o.op=.convert s d x)(hs:P.underlying s=some .string)(hd:P.underlying d=some (.slice e))(he:P.underlying e=some (.int .u8))(hx:aw x=some x')(ex:ρ x'=.d (.str l))(ev:Ev ρ a g w)(hh:ax g w H):Good P a o g w ns (.d (.list (l.map fun b=>[.int .u8 b.toNat]))) H:=by
 have hv:=ev _ _ hx;rw[ex]at hv;obtain⟨b,hb,rfl⟩:=RV.str hv;have ep:∃(cap:Nat)(fz:Nat),b.size<=cap/\(execOp a.eval o).run P w=.ok (.value (.slice (some ⟨w.heap.size,0,none⟩) b.size cap)) ((w.drew.alloc (.cells ((b.data.map fun x=>(Value.int .u8 x.toNat))++Array.replicate (cap - b.size) (.int .u8 0)) e)).freeze ⟨w.heap.size,fz,none⟩ 1):=by
  have hm:=run_mark (P:=P) ((b.data.map fun(x:UInt8)=>(Value.int .u8 x.toNat))++Array.replicate ((Question.appendCap b.size 0 e).cut (w.tape w.drawn (.appendCap b.size 0 e)) - b.size) (Value.int .u8 0)) e w.drew;refine⟨(Question.appendCap b.size 0 e).cut (w.tape w.drawn (.appendCap b.size 0 e)),((b.data.map fun(x:UInt8)=>(Value.int .u8 x.toNat))++Array.replicate ((Question.appendCap b.size 0 e).cut (w.tape w.drawn (.appendCap b.size 0 e)) - b.size) (Value.int .u8 0)).size,?_,?_⟩
  ·simp[Question.cut]
  ·have Ug:w.drew.heap.size=w.heap.size:=rfl;rw[Ug]at hm;simp only[execOp,ho,hb,convert,Sem.run_bind,run_underlying hs,run_underlying hd,run_underlying he,Result.andThen_ok,Conv.stringToBytes,run_choose,Question.forced,newRow,run_newObj,Sem.run_pure,abA,abN];erw [hm];rfl
 obtain⟨cap,fz,En,hr⟩:=ep;have Vd:=hh.drew;have xB:=bA.uy (w:=w.drew) Vd (.cells ((b.data.map fun x=>(Value.int .u8 x.toNat))++Array.replicate (cap - b.size) (.int .u8 0)) e) fz 1;have iC:=(eF g w).trans xB;have gq:∀c y k,g.γ c=some y->y.own=some k->((w.drew.alloc (.cells ((b.data.map fun x=>(Value.int .u8 x.toNat))++Array.replicate (cap - b.size) (.int .u8 0)) e)).freeze ⟨w.heap.size,fz,none⟩ 1).heap[k]? =w.heap[k]? :=by intro c y k hy hk;obtain⟨_,z,_,h3⟩:=hh.live c y hy;have:=h3.lt k hk;rw[kD (by omega)];exact ct w.drew _ this
 refine⟨g,_,_,hr,.inl ⟨_,rfl,?_⟩,hh.ext iC gq,iC,fun _ h=>.inl h⟩;have xC:∀j,j<b.size->((w.drew.alloc (.cells ((b.data.map fun x=>(Value.int .u8 x.toNat))++Array.replicate (cap - b.size) (.int .u8 0)) e)).freeze ⟨w.heap.size,fz,none⟩ 1).cell? ⟨w.heap.size,j,none⟩=(b.data.toList[j]? ).map fun x=>Value.int .u8 x.toNat:=by
  intro j hj;have cA:w.drew.heap.size<(w.drew.alloc (.cells ((b.data.map fun x=>(Value.int .u8 x.toNat))++Array.replicate (cap - b.size) (.int .u8 0)) e)).heap.size:=by simp
  have Ve:=bf w.drew (.cells ((b.data.map fun x=>(Value.int .u8 x.toNat))++Array.replicate (cap - b.size) (.int .u8 0)) e);have Lh:∃fr,((w.drew.alloc (.cells ((b.data.map fun x=>(Value.int .u8 x.toNat))++Array.replicate (cap - b.size) (.int .u8 0)) e)).freeze ⟨w.heap.size,fz,none⟩ 1).heap[w.heap.size]? =some (.cells ((b.data.map fun x=>(Value.int .u8 x.toNat))++Array.replicate (cap - b.size) (.int .u8 0)) e fr):=by unfold World.freeze;rw[aaH (by omega)];simp only[abB,abJ];simp_all
  obtain⟨fr,Lh⟩:=Lh;simp only[World.cell?,Lh];have Eo:j<b.data.size:=hj;grind
 simp only[RV,Rd];refine .inr ⟨w.heap.size,0,cap,1,by simp,by simp_all,fun _=>⟨by rw[lJ];simp,fun hf=>by have:=(hh.fo _ hf).1;omega,fun c y hy hk=>?_ ⟩,eD.eN fun i e' OO=>?_ ⟩
 ·obtain⟨_,z,_,h3⟩:=hh.live c y hy;have:=h3.lt _ hk;omega
 ·simp only[aa9,aaB]at OO;obtain⟨c,hc,rfl⟩:=OO;have hi:i<b.size:=by have:=(aaA.1 hc).1;simp_all
  simp_all[cV,aaR,abS,Rd]
theorem uz:∀(ns:List Int)(s:ByteArray),(ns.foldl (fun r n=>r.push (UInt8.ofNat n.toNat)) s).data.toList=s.data.toList++ns.map fun n=>UInt8.ofNat n.toNat
 |[],s=>by simp
 |n::ns,s=>by rw[abp,uz ns];simp[ByteArray.push]
theorem uA{g:G}{w:World}:∀{xs:List V}{l:List UInt8}{vs:List Value},kx xs=some l->aM g w xs vs->∃ns:List Int,vs=ns.map (Value.int .u8)/\l=ns.map fun n=>UInt8.ofNat n.toNat
 |[],l,vs,h,hv=>by
  simp only[kx,aat]at h;cases vs with
   |nil=>exact⟨[],rfl,h.symm⟩
   |cons _ _=>simp only[aM]at hv
 |x::xs,l,[],h,hv=>by simp only[aM]at hv
 |x::xs,l,v::vs,h,hv=>by
  unfold kx at h;split at h
  ·cases ‹_::_=[]›
  ·rename_i n l' heq;simp only[ack]at heq;obtain⟨rfl,rfl⟩:=heq;split at h
   ·rename_i s hs;simp only[aat]at h;subst h;simp only[aM,RV,Rd]at hv;obtain⟨rfl,hv⟩:=hv;obtain⟨ns,rfl,rfl⟩:=uA hs hv;exact⟨n::ns,rfl,rfl⟩
   ·cases h
  ·cases h
theorem zF{s d:TypeId}{x:Operand}{b hb off len sz:Nat}{xs:List V}{l:List UInt8}(ho:o.op=.convert s d x)(hs:P.underlying s=some (.slice e))(hd:P.underlying d=some .string)(he:P.underlying e=some (.int .u8))(hx:aw x=some x')(ex:ρ x'=.sl b hb off len sz)(A':bE H 1 (.sl b hb off len sz)=some xs)(Vf:kx xs=some l)(ev:Ev ρ a g w)(hh:ax g w H):Good P a o g w ns (.d (.str l)) H:=by
 have hv:=ev _ _ hx;rw[ex]at hv;obtain⟨n,vs,f1,f2,f3,f4⟩:=fu (P:=P) A' hv hh (by omega);obtain⟨ms,rfl,rfl⟩:=uA Vf f3;have Vg:∃base n' cap,a.eval x=.slice base n' cap:=by
  simp only[bE]at A';cases hz:Nat.beq 1 sz with
   |false=>rw[hz]at A';simp at A'
   |true=>
    rw[hz]at A';simp only[aaw]at A';split at A'
    ·rename_i cs hg;cases hq:(Nat.beq cs.length hb&&Nat.ble (off+len*1) hb)with
      |false=>rw[hq]at A';simp at A'
      |true=>
       simp only[aas]at hq;obtain⟨gb,pR⟩:=hh.back b _ hg;obtain⟨Hm,y,hy,hr⟩:=hh.live b gb pR;rw[hg]at hy;simp only[aat]at hy;subst hy;simp only[RV]at hv;have:=hv.2 gb pR;cases gb with
        |nil=>exact⟨_,_,_,this.2.2.2⟩
        |obj=>exact this.elim
        |cells aK cp cur=>simp only[RB]at hr;obtain⟨cap,k,_⟩:=this.2 (by have:=hr.1;have:=aav hq.1;omega);exact⟨_,_,_,k⟩
    ·rename_i hg;obtain⟨gb,pR⟩:=hh.back b _ hg;obtain⟨Hm,y,hy,hr⟩:=hh.live b gb pR;rw[hg]at hy;simp only[aat]at hy;subst hy;simp only[RV]at hv;have:=hv.2 gb pR;cases gb with
      |nil=>exact⟨_,_,_,this.2.2.2⟩
      |obj=>exact this.elim
      |cells aK cp cur=>simp only[RB]at hr
    ·cases A'
 obtain⟨base,n',cap,Z1⟩:=Vg;rw[Z1]at f1 f2;have hn:n=n':=by simpa[Builtin.lenOf]using f1.symm
 subst hn;have ep:(Conv.bytesToString (.slice base n cap)).run P w=.ok (.string (ms.foldl (fun r n=>r.push (UInt8.ofNat n.toNat)) ByteArray.empty)) w:=by
  cases base with
   |none=>
    simp only[Builtin.firstCells,Sem.run_pure,Result.ok.injEq,ab9]at f2;have:ms=[]:=by
     cases ms with
      |nil=>rfl
      |cons _ _=>simp at f2
    subst this;simp[Conv.bytesToString,Sem.run_pure]
   |some q=>refine run_bytesToString w q n cap ms ?_;simpa[Builtin.firstCells]using f2
 refine Good.val (x:=.string (ms.foldl (fun r n=>r.push (UInt8.ofNat n.toNat)) ByteArray.empty)) hh ?_ ?_
 ·simp only[execOp,ho,Z1,Sem.run_bind,run_convert_bytes_string w s d e base n cap hs he hd,ep,Result.andThen_ok,Sem.run_pure]
 ·simp only[RV,Rd];exact⟨_,rfl,by rw[uz];rfl⟩
theorem wrap_small(h:n<=cf):IntKind.i64.wrap (n:Int)=n:=by
 have h2:cf=1099511627776:=by decide
 unfold IntKind.wrap;have e1:(2:Int)^IntKind.i64.bits=18446744073709551616:=by decide
 have e2:(2:Int)^(IntKind.i64.bits - 1)=9223372036854775808:=by decide
 grind
theorem HN{i:TypeInfo}{zs:List V}{l c:Operand}{l' c':aX}(ho:o.op=.makeSlice t l c)(ht:P.underlying t=some (.slice e))(hi:P.info? e=some i)(hz:di P e=some zs)(hl:aw l=some l')(hc:aw c=some c')(h:bw ρ H ns (.nb i.size i.bytes zs l' c')=some (v,wr))(ev:Ev ρ a g w)(hh:ax g w H)(fC:gg g ns):Good P a o g w ns v (bn H wr):=by
 simp only[di,aa7]at hz;obtain⟨zv,⟨i2,tN,xp⟩,hm⟩:=hz;rw[hi]at tN;simp only[aat]at tN;subst tN;obtain⟨hv,kz⟩:=iR (g:=g) (w:=w) hm;simp only[bw]at h;split at h
 ·rename_i ln cn el ec;cases hb:(Nat.ble ln cn&&Nat.ble (cn*(i.bytes+1)) cf&&Nat.ble cn cf&&zs.all eC&&Nat.beq zs.length i.size&&Nat.blt 0 i.size)with
   |false=>grind
   |true=>
    rw[hb]at h;simp only[aaw,aat,aay]at h;obtain⟨rfl,rfl⟩:=h;simp only[aas]at hb;have b1:=aax hb.1.1.1.1.1;have b2:=aax hb.1.1.1.1.2;have b3:=aax hb.1.1.1.2;have b4:=aav hb.1.2;have b5:0<i.size:=by simp_all
    have Ep:cf=1099511627776:=by decide
    obtain⟨kl,Uh⟩:=er el (ev _ _ hl);obtain⟨kc,Z2⟩:=er ec (ev _ _ hc);have La:zv.cells.size=i.size:=by have:=hv.length;grind
    have w1:=wrap_small (n:=ln) (by omega);have w2:=wrap_small (n:=cn) b3;have DR:i.bytes*cn<=1099511627776:=by grind
    have Vh:¬((cn:Int)<0):=by omega
    have ep:(execOp a.eval o).run P w=.ok (.value (.slice (some ⟨w.heap.size,0,none⟩) ln cn)) (w.alloc (.cells ((Array.range (cn*i.size)).map (zv.cells[·%zv.cells.size]! )) e)):=by
     have uB:¬((ln:Int)<0):=by omega
     have hlc:¬((ln:Int)>(cn:Int)):=by omega
     by_cases JC:cn=0
     ·subst JC;have:ln=0:=by omega
      subst this;have w0:IntKind.i64.wrap 0=0:=by decide
      simp[execOp,ho,Instr.makeSlice,run_underlying ht,Uh,Z2,asInt,asIntOf,typeInfo,hi,w0,Go.sizeOf,newRow,show Array.range 0= #[]from rfl]
     ·have Ud:¬(cn=0\/i.size=0):=by omega
      have Li:¬(281474976710656<(i.bytes:Int)*(cn:Int)):=by grind
      have Vi:¬(cn*i.size=0):=by rw[acj];omega
      have Vj:¬((cn:Int)<(ln:Int)):=by omega
      simp[execOp,ho,Instr.makeSlice,run_underlying ht,Uh,Z2,asInt,asIntOf,typeInfo,hi,w1,w2,Li,uB,Vj,Vh,Go.sizeOf,Vi,zeroValue,xp,newRow]
    have aac:=fC;let g':=g.add ns (.cells w.heap.size (cn*i.size) (ln*i.size));have he:=bA.new hh fC (.cells ((Array.range (cn*i.size)).map (zv.cells[·%zv.cells.size]! )) e) (.cells w.heap.size (cn*i.size) (ln*i.size)) rfl;have hle:ln*i.size<=cn*i.size:=aa1 _ b1;refine⟨g',_,_,ep,.inl ⟨_,rfl,?_⟩,ax.new hh fC _ _ _ rfl ?_,he,fun _ h=>h⟩
    ·exact RV.xt (cp:=cn*i.size) (.inr rfl) (by simp[g',G.add]) b1 (by omega)
    ·simp only[RB];have zG:((List.range (ln*i.size)).map fun j=>zs.getD (j%i.size) .any).all eC=true:=by simp only[aaJ,abg,abn];rintro x ⟨j,_,rfl⟩;have:=abY j b5;grind
     refine⟨by simp,zG,by grind,_,e,bf _ _,by simp,?_ ⟩;refine aM.ext he _ _ (aM.eN (by grind) fun j u x hu hx=>?_ );simp only[aaC,List.length_range]at hx;rw[aa4]at hx;split at hx
     ·rename_i hj;rw[rV _ (by omega)]at hx;have Eo:j<cn*i.size:=by omega
      rw[aaD Eo,La]at hx;simp[hj]at hu;subst hu;have Ub:=abY j b5;have hg:zs[j%i.size]? =some (zs[j%i.size]'(by omega)):=aaz _;rw[hg,abx];obtain⟨v',h5,h6⟩:=aM.get (j%i.size) hv hg;grind
     ·cases hx
 ·cases h
theorem OP{x:Operand}(ho:o.op=.call {callee:=.builtin .cap,args:= #[x],argTypes:= #[t]})(ht:P.underlying t=some (.slice e))(hx:aw x=some x')(h:bw ρ H ns (.cap x')=some (v,wr))(ev:Ev ρ a g w)(hh:ax g w H):Good P a o g w ns v (bn H wr):=by
 have cW:=ev _ _ hx;simp only[bw]at h;split at h
 ·rename_i e1;rw[e1]at cW;simp only[RV]at cW;simp at h;obtain⟨rfl,rfl⟩:=h;refine Good.val (x:=.int .i64 0) hh ?_ (RV.zj _ _);simp[execOp,ho,resolve,invoke,builtin,Builtin.cap_,run_underlying ht,cW,goInt]
 ·cases h
theorem Co{u:TypeId}{k:IntKind}{i:TypeInfo}{zs:List V}{x y:Operand}{y':aX}(ho:o.op=.call {callee:=.builtin .append,args:= #[x,y],argTypes:= #[t,u]})(ht:P.underlying t=some (.slice e))(hu:P.underlying u=some (.int k))(hi:P.info? e=some i)(hz:di P e=some zs)(hx:aw x=some x')(hy:aw y=some y')(h:bw ρ H ns (.oc i.size i.bytes zs x' y')=some (v,wr))(ev:Ev ρ a g w)(hh:ax g w H)(fC:gg g ns):Good P a o g w ns v (bn H wr):=by
 simp only[di,aa7]at hz;obtain⟨zv,⟨i2,tN,xp⟩,hm⟩:=hz;rw[hi]at tN;simp only[aat]at tN;subst tN;obtain⟨hv,kz⟩:=iR (g:=g) (w:=w) hm;have cW:=ev _ _ hx;simp only[bw]at h;split at h
 ·rename_i n e1 en;rw[e1]at cW;simp only[RV]at cW;cases hb:(Nat.blt 0 n&&Nat.ble (n*(i.bytes+1)) cf&&Nat.ble n cf&&zs.all eC&&Nat.beq zs.length i.size&&Nat.blt 0 i.size)with
   |false=>grind
   |true=>
    rw[hb]at h;simp only[aaw,aat,aay]at h;obtain⟨rfl,rfl⟩:=h;simp only[aas]at hb;have b0:0<n:=by simp_all
    have b2:=aax hb.1.1.1.1.2;have b3:=aax hb.1.1.1.2;have b4:=aav hb.1.2;have b5:0<i.size:=by simp_all
    have Ep:cf=1099511627776:=by decide
    obtain⟨kn,hkn⟩:=er en (ev _ _ hy);have La:zv.cells.size=i.size:=by have:=hv.length;grind
    have w1:=wrap_small (n:=n) b3;have DR:n*i.bytes<=1099511627776:=by grind
    have uB:¬((n:Int)<0):=by omega
    have Li:¬(281474976710656<(n:Int)*(i.bytes:Int)):=by grind
    have Vi:¬(n*i.size=0):=by rw[acj];omega
    have JC:¬(n=0\/i.size=0):=by omega
    have Vk:¬n=0:=by omega
    have Ue:¬(9223372036854775807<(n:Int)):=by omega
    have hnx:Builtin.nextslicecap n 0=n:=by simp[Builtin.nextslicecap,b0]
    have K_:¬(281474976710656<n*i.bytes):=by omega
    have ep:(execOp a.eval o).run P w=.ok (.value (.slice (some ⟨w.heap.size,0,none⟩) n (grownCap w n 0 e))) (w.drew.alloc (.cells (Builtin.zeroCells zv.cells n++Builtin.zeroCells zv.cells (grownCap w n 0 e - n)) e)):=by simp[execOp,ho,resolve,invoke,builtin,Builtin.append_,run_underlying ht,run_underlying hu,cW,hkn,asInt,asIntOf,w1,uB,Li,Vi,Vk,Ue,hnx,K_,Go.sizeOf,typeInfo,zeroValue,hi,xp,Question.forced,Builtin.firstCells,newRow,grownCap]
    have OJ:=grownCap_ge w n 0 e;have cG:(Builtin.zeroCells zv.cells n++Builtin.zeroCells zv.cells (grownCap w n 0 e - n)).size=grownCap w n 0 e*i.size:=by simp only[Array.size_append,size_zeroCells,La,←abI];grind
    have hle:n*i.size<=grownCap w n 0 e*i.size:=aa1 _ OJ;let g':=g.add ns (.cells w.heap.size (grownCap w n 0 e*i.size) (n*i.size));have hd:=eF g w;have he:=bA.new hh.drew fC (.cells (Builtin.zeroCells zv.cells n++Builtin.zeroCells zv.cells (grownCap w n 0 e - n)) e) (.cells w.heap.size (grownCap w n 0 e*i.size) (n*i.size)) rfl;refine⟨g',_,_,ep,.inl ⟨_,rfl,?_⟩,ax.new hh.drew fC _ _ _ rfl ?_,hd.trans he,fun _ h=>h⟩
    ·exact RV.xt (cp:=grownCap w n 0 e*i.size) (.inr rfl) (by simp[g',G.add]) OJ (by omega)
    ·simp;have zG:((List.range (n*i.size)).map fun j=>zs.getD (j%i.size) .any).all eC=true:=by simp only[aaJ,abg,abn];rintro x ⟨j,_,rfl⟩;have:=abY j b5;grind
     refine⟨by simp,zG,by grind,_,e,bf _ _,by grind,?_ ⟩;refine aM.ext he _ _ (aM.ext hd _ _ (aM.eN ?_ fun j u x hu hx=>?_ ))
     ·grind
     ·simp at hx;rw[aa4]at hx;split at hx
      ·rename_i hj;simp[hj]at hu;subst hu;have hj3:j<(Builtin.zeroCells zv.cells n).size:=by grind[size_zeroCells]
       have ly:(Builtin.zeroCells zv.cells n)[j]? =some x:=by grind
       have Vl:((Array.range (n*i.size)).map (zv.cells[·%zv.cells.size]! )).toList[j]? =some x:=by grind[Builtin.zeroCells]
       rw[rV _ (by omega),aaD hj,La]at Vl;have Ub:=abY j b5;have hg:zs[j%i.size]? =some (zs[j%i.size]'(by omega)):=aaz _;rw[hg,abx];obtain⟨v',h5,h6⟩:=aM.get (j%i.size) hv hg;grind
      ·cases hx
 ·cases h
end
end Fw
/-
  Every operation that calls nothing.
-/
namespace Fw
open Go
section
variable {P:Program}{a:Act}{o:Oper}{g:G}{w:World}{ρ:aX->V}{H:ao}{ns:Nat}
variable {v:V}{wr:Wr}
theorem A_{t:TypeId}{x:Operand}{x':aX}{k:km}{c:Call}(ho:o.op=.call c)(hc:c.callee=.builtin .len)(gW:c.args.toList=[x])(Hn:c.argTypes.toList=[t])(hx:aw x=some x')(hk:Eg P t k\/∃n e,k=.arr n/\P.underlying t=some (.array n e))(h:bw ρ H ns (.len k x')=some (v,wr))(ev:Ev ρ a g w)(hh:ax g w H):Good P a o g w ns v (bn H wr):=by
 obtain⟨callee,args,ts⟩:=c;have e1:args= #[x]:=aa3.1 (by grind);have e2:ts= #[t]:=aa3.1 (by grind);simp only at hc;subst hc;subst e1;subst e2;have exec:∀n:Int,(Builtin.len_ #[t] o.type #[a.eval x]).run P w=.ok (goInt n) w->(execOp a.eval o).run P w=.ok (.value (goInt n)) w:=by simp_all[execOp,resolve,invoke,builtin]
 have fin:∀n:Nat,(Builtin.len_ #[t] o.type #[a.eval x]).run P w=.ok (goInt n) w->Good P a o g w ns (.d (.int .i64 n)) H:=fun n hn=>Good.val hh (exec _ hn) (RV.zj _ _)
 rcases hk with hk|⟨n,e,rfl,hn⟩
 ·cases k with
   |arr=>exact hk.elim
   |str=>
    simp only[bw]at h;split at h
    ·rename_i n hn;simp at h;obtain⟨rfl,rfl⟩:=h;exact fin n (vI hn (ev _ _ hx) hh hk)
    ·cases h
   |slice=>
    simp only[bw]at h;split at h
    ·rename_i n hn;simp at h;obtain⟨rfl,rfl⟩:=h;exact fin n (vI hn (ev _ _ hx) hh hk)
    ·cases h
   |map=>
    simp only[bw]at h;split at h
    ·rename_i n hn;simp at h;obtain⟨rfl,rfl⟩:=h;exact fin n (vI hn (ev _ _ hx) hh hk)
    ·cases h
 ·simp only[bw,aat,aay]at h;obtain⟨rfl,rfl⟩:=h;exact fin n (by simp[Builtin.len_,run_underlying hn])
theorem Er{c:Call}{io:jG}(ho:o.op=.call c)(hc:dq P c=some io)(he:bw ρ H ns io=some (v,wr))(ev:Ev ρ a g w)(hh:ax g w H)(fC:gg g ns):Good P a o g w ns v (bn H wr):=by
 unfold dq at hc;split at hc
 ·rename_i e_;split at hc
  ·rename_i x t gW Hn;split at hc
   ·rename_i hu;simp at hc;obtain⟨x',hx,rfl⟩:=hc;exact A_ (k:=.str) ho e_ gW Hn hx (.inl hu) he ev hh
   ·rename_i e hu;simp at hc;obtain⟨x',hx,rfl⟩:=hc;exact A_ (k:=.slice) ho e_ gW Hn hx (.inl ⟨e,hu⟩) he ev hh
   ·rename_i k e hu;simp at hc;obtain⟨x',hx,rfl⟩:=hc;exact A_ (k:=.map) ho e_ gW Hn hx (.inl ⟨k,e,hu⟩) he ev hh
   ·rename_i n e hu;simp at hc;obtain⟨x',hx,rfl⟩:=hc;exact A_ ho e_ gW Hn hx (.inr ⟨n,e,rfl,hu⟩) he ev hh
   ·cases hc
  ·cases hc
 ·rename_i e_;split at hc
  ·rename_i x y t u gW Hn;split at hc
   ·rename_i e k hu Jz;split at hc
    ·rename_i i z x' y' hi hz hx hy;simp at hc;subst hc;obtain⟨callee,args,ts⟩:=c;have e1:args= #[x,y]:=aa3.1 (by grind);have e2:ts= #[t,u]:=aa3.1 (by grind);simp only at e_;subst e_;subst e1;subst e2;exact Co ho hu Jz hi hz hx hy he ev hh fC
    ·cases hc
   ·rename_i e d Vm hu Jz;split at hc
    ·rename_i i z x' y' hd hi hz hx hy;split at hc
     ·rename_i eS;simp at hc;subst hc;simp only[bw]at he;split at he
      ·rename_i xs D8;obtain⟨callee,args,ts⟩:=c;have e1:args= #[x,y]:=aa3.1 (by grind);have e2:ts= #[t,u]:=aa3.1 (by grind);simp only at e_;subst e_;subst e1;subst e2;refine Eh ho rfl hu ?_ hi hz eS.1 eS.2 hx hy D8 he ev hh fC;cases d<;>simp[KW]at hd;all_goals grind
      ·cases he
     ·cases hc
    ·cases hc
   ·cases hc
  ·cases hc
 ·rename_i e_;split at hc
  ·rename_i x t gW Hn;split at hc
   ·rename_i e hu;simp at hc;obtain⟨x',hx,rfl⟩:=hc;obtain⟨callee,args,ts⟩:=c;have e1:args= #[x]:=aa3.1 (by grind);have e2:ts= #[t]:=aa3.1 (by grind);simp only at e_;subst e_;subst e1;subst e2;exact OP ho hu hx he ev hh
   ·cases hc
  ·cases hc
 ·rename_i e_;simp at hc;obtain⟨l,hl,rfl⟩:=hc;have hH:wr=none:=by grind[bw,Option.map_eq_some_iff,Prod.mk.injEq]
  subst hH;obtain⟨callee,args,ts⟩:=c;simp only at e_;subst e_;exact xz (isMax:=false) ho hl he ev hh
 ·rename_i e_;simp at hc;obtain⟨l,hl,rfl⟩:=hc;have hH:wr=none:=by grind[bw,Option.map_eq_some_iff,Prod.mk.injEq]
  subst hH;obtain⟨callee,args,ts⟩:=c;simp only at e_;subst e_;exact xz (isMax:=true) ho hl he ev hh
 all_goals grind[Option.map_eq_some_iff,bw]
theorem rZ{io:jG}(hc:aU P o.op=some io)(he:bw ρ H ns io=some (v,wr))(ev:Ev ρ a g w)(hh:ax g w H)(fC:gg g ns):Good P a o g w ns v (bn H wr):=by
 unfold aU at hc;split at hc
 ·rename_i x ho;simp at hc;obtain⟨x',hx,rfl⟩:=hc;simp only[bw,aat,aay]at he;obtain⟨rfl,rfl⟩:=he;exact Oy (.inl ho) hx ev hh
 ·rename_i x ho;simp at hc;obtain⟨x',hx,rfl⟩:=hc;simp only[bw,aat,aay]at he;obtain⟨rfl,rfl⟩:=he;exact Oy (.inr ho) hx ev hh
 ·rename_i c x y ho;split at hc
  ·rename_i c' x' y' h1 h2 h3;simp at hc;subst hc;simp only[bw]at he;split at he
   ·rename_i b hb;simp at he;obtain⟨rfl,rfl⟩:=he;exact KY ho h1 h2 h3 hb ev hh
   ·cases he
  ·cases hc
 ·rename_i t ho;simp at hc;obtain⟨z,hz,rfl⟩:=hc;simp only[bw,aat,aay]at he;obtain⟨rfl,rfl⟩:=he;exact HA ho hz hh fC
 ·rename_i t x ho;split at hc
  ·rename_i n x' hn hx;simp at hc;subst hc;simp only[bw]at he;cases eS:(Nat.beq (bP (ρ x')).length n&&(bP (ρ x')).all eC)with
    |false=>grind
    |true=>rw[eS]at he;simp at he;simp only[aas]at eS;obtain⟨rfl,rfl⟩:=he;rw[←aav eS.1];exact Oz ho hx eS.2 ev hh fC
  ·cases hc
 ·rename_i t ps ho;split at hc
  ·rename_i fs z ht hz;split at hc
   ·rename_i rP Ce;simp only[aaB]at hc;obtain⟨qs,hq,rfl⟩:=hc;simp only[bw,aaB,aay]at he;obtain⟨cs,nI,rfl,rfl⟩:=he;refine A2 ho hz (fun i zv parts hi xp=>?_ ) hq nI ev hh;grind[Program.built]
   ·cases hc
  ·rename_i n e z ht hz;split at hc
   ·rename_i ie ZZ;simp at hc;obtain⟨qs,hq,rfl⟩:=hc;simp only[bw,aaB,aay]at he;obtain⟨cs,nI,rfl,rfl⟩:=he;refine A2 ho hz (fun i zv parts hi xp=>?_ ) hq nI ev hh;grind[Program.built]
   ·cases hc
  ·cases hc
 ·rename_i t len ps ho;split at hc
  ·rename_i e ht;split at hc
   ·rename_i s z hs hz;split at hc
    ·rename_i eS;simp only[aaB]at hc;obtain⟨qs,hq,rfl⟩:=hc;simp only[bw]at he;cases HO:(Nat.beq ((List.range (len*s)).map fun i=>z.getD (i%s) .any).length (len*s)&&((List.range (len*s)).map fun i=>z.getD (i%s) .any).all eC)with
      |false=>grind
      |true=>rw[HO]at he;simp at he;obtain⟨cs,nI,rfl,rfl⟩:=he;obtain⟨k1,k2⟩:=Cd ho ht hs hz eS.1 eS.2.1 eS.2.2 hq nI ev hh fC;rw[k2]at k1;exact k1
    ·cases hc
   ·cases hc
  ·cases hc
 ·rename_i t x ho;split at hc
  ·rename_i n b x' hn hb hx;split at hc
   ·simp at hc;subst hc;simp only[bw]at he;split at he
    ·rename_i cs nI;simp at he;obtain⟨v',fY,rfl,rfl⟩:=he;exact KZ ho hn hb hx nI fY ev hh
    ·cases he
   ·cases hc
  ·cases hc
 ·rename_i t x y ho;split at hc
  ·rename_i n x' y' hn hx hy;simp at hc;subst hc;simp only[bw,aaB,aay]at he;obtain⟨H2,h2,rfl,rfl⟩:=he;exact HB ho hn hx hy h2 ev hh
  ·cases hc
 ·rename_i x ho;simp at hc;obtain⟨x',hx,rfl⟩:=hc;have hH:wr=none:=by grind[bw,Option.some.injEq,Prod.mk.injEq,reduceCtorEq]
  subst hH;exact D9 ho hx he ev hh
 ·rename_i op t x y yt ho;split at hc
  ·rename_i x' y' hx hy;have aad:∀{io:jG},io=.bin op x' y'->bw ρ H ns io=some (v,wr)->Good P a o g w ns v (bn H wr):=by rintro io rfl he;simp only[bw,aaB,aay]at he;obtain⟨v',fY,rfl,rfl⟩:=he;exact OD ho hx hy fY ev hh
   have heq:∀{io:jG}{k:pS}{neg:Bool},io=.eq neg k x' y'->bw ρ H ns io=some (v,wr)->((op=.eql/\neg=false)\/(op=.neq/\neg=true))->(match k with| .bool=>P.underlying t=some .bool| .ptr=>∃e,P.underlying t=some (.pointer e)| .iface=>(∃e,P.underlying t=some (.interface e))/\((∃c,x=.const c)\/∃c,y=.const c)| .slice=>∃e,P.underlying t=some (.slice e)| .func=>∃s:Array TypeId×Array TypeId×Bool,P.underlying t=some (.func s.1 s.2.1 s.2.2))->Good P a o g w ns v (bn H wr):=by rintro io k neg rfl he fX hk;simp only[bw,aaB,aay]at he;obtain⟨b,hb,rfl,rfl⟩:=he;exact U1 ho fX hk hx hy hb ev hh
   split at hc
   ·split at hc
    ·grind
    ·grind
    ·grind
    ·grind
    ·rename_i fs hu;simp at hc;obtain⟨ks,Cn,rfl⟩:=hc;simp only[bw]at he;split at he
     ·rename_i us e1;split at he
      ·rename_i vs e2;split at he
       ·rename_i r vL;simp at he;obtain⟨rfl,rfl⟩:=he;exact JE ho (.inl ⟨rfl,rfl⟩) Cn hx hy e1 e2 vL ev hh
       ·cases he
      ·cases he
     ·cases he
    all_goals grind
   ·split at hc
    ·grind
    ·grind
    ·grind
    ·grind
    ·rename_i fs hu;simp at hc;obtain⟨ks,Cn,rfl⟩:=hc;simp only[bw]at he;split at he
     ·rename_i us e1;split at he
      ·rename_i vs e2;split at he
       ·rename_i r vL;simp at he;obtain⟨rfl,rfl⟩:=he;exact JE ho (.inr ⟨rfl,rfl⟩) Cn hx hy e1 e2 vL ev hh
       ·cases he
      ·cases he
     ·cases he
    all_goals grind
   grind
  ·cases hc
 ·rename_i op t x ho;simp at hc;obtain⟨x',hx,rfl⟩:=hc;simp only[bw,aaB,aay]at he;obtain⟨v',fY,rfl,rfl⟩:=he;exact U2 ho hx fY ev hh
 ·rename_i s d x ho;split at hc
  ·rename_i k0 k x' hs hd hx;simp at hc;subst hc;simp only[bw]at he;split at he
   ·rename_i k1 n e;simp at he;obtain⟨rfl,rfl⟩:=he;exact K4 ho hs hd hx e ev hh
   ·cases he
  ·rename_i el x' hs hd hx;split at hc
   ·rename_i HP;simp at hc;subst hc;simp only[bw]at he;split at he
    ·rename_i l e;simp at he;obtain⟨rfl,rfl⟩:=he;exact zE ho hs hd HP hx e ev hh
    ·cases he
   ·cases hc
  ·rename_i el x' hs hd hx;split at hc
   ·rename_i HP;simp at hc;subst hc;simp only[bw]at he;split at he
    ·rename_i e;split at he
     ·rename_i xs D8;split at he
      ·rename_i s Vf;simp only[aat,aay]at he;obtain⟨rfl,rfl⟩:=he;exact zF ho hs hd HP hx e D8 Vf ev hh
      ·cases he
     ·cases he
    ·cases he
   ·cases hc
  ·rename_i el el' x' hs hd hx;split at hc
   ·simp at hc;subst hc;simp[bw]at he
   ·cases hc
  ·cases hc
 ·rename_i f p q ho;split at hc
  ·rename_i p' q' hp hq;simp at hc;subst hc;simp only[bw,aat,aay]at he;obtain⟨rfl,rfl⟩:=he;exact Ee ho hp hq ev hh
  ·cases hc
 ·rename_i t ho;simp at hc;subst hc;simp only[bw,aat,aay]at he;obtain⟨rfl,rfl⟩:=he;exact HI ho hh fC
 ·rename_i t l c ho;split at hc
  ·rename_i e l' c' ht hl HO;split at hc
   ·rename_i i z hi hz;simp at hc;subst hc;exact HN ho ht hi hz hl HO he ev hh fC
   ·cases hc
  ·cases hc
 ·rename_i t x lo hi ho;split at hc
  ·rename_i x' xo jU hx kh ji;split at hc
   ·rename_i ht;simp at hc;subst hc;simp only[bw]at he;split at he
    ·rename_i s e;simp only[aaB]at he;obtain⟨⟨l,h⟩,hb,he⟩:=he;simp at he;obtain⟨rfl,rfl⟩:=he;exact D_ ho ht hx kh ji e hb ev hh
    ·cases he
   ·rename_i el ht;simp at hc;obtain⟨s,hs,rfl⟩:=hc;simp only[bw]at he;split at he
    ·rename_i es e;cases hl:es.all (fun e=>Nat.beq e.length s)with
      |false=>grind
      |true=>rw[hl]at he;simp only[aaw,aaB]at he;obtain⟨⟨l,h⟩,hb,he⟩:=he;simp at he;obtain⟨rfl,rfl⟩:=he;exact Ea ho ht hs hx kh ji e hl hb ev hh
    ·rename_i b Lj off len uq e;cases hl:(Nat.beq s uq&&eL H b Lj)with
      |false=>grind
      |true=>rw[hl]at he;simp only[aaw,aaB]at he;obtain⟨⟨l,h⟩,xa,he⟩:=he;simp at he;obtain⟨rfl,rfl⟩:=he;simp only[aas]at hl;have:=aav hl.1;subst this;exact Ch ho ht hs hx kh ji e hl.2 xa ev hh
    ·rename_i e;simp only[aaB]at he;obtain⟨⟨l,h⟩,xa,he⟩:=he;simp at he;obtain⟨rfl,rfl⟩:=he;exact Ci ho ht hs hx kh ji e xa ev hh
    ·cases he
   ·rename_i n el ht;simp only[aaB]at hc;obtain⟨s,hs,rfl⟩:=hc;simp only[bw]at he;split at he
    ·rename_i b Lj off e;cases hl:(eL H b Lj&&Nat.ble (off+n*s) Lj&&Nat.blt 0 Lj)with
      |false=>rw[hl]at he;cases he
      |true=>rw[hl]at he;simp only[aaw,aaB]at he;obtain⟨⟨l,h⟩,xa,he⟩:=he;simp only[aay]at he;obtain⟨rfl,rfl⟩:=he;simp only[aas]at hl;exact Eb ho ht hs hx kh ji e hl.1.1 (aax hl.1.2) (by have:=hl.2;rwa[aaU]at this) xa ev hh
    ·cases he
   ·cases hc
  ·cases hc
 ·rename_i t x hi mx ho;split at hc
  ·rename_i x' jU Ox hx ji U3;split at hc
   ·rename_i el ht;simp at hc;obtain⟨s,hs,rfl⟩:=hc;simp only[bw]at he;split at he
    ·rename_i es h m e h1 h2;cases hl:(es.all (fun e=>Nat.beq e.length s)&&Nat.beq h m&&Nat.ble h es.length)with
      |false=>grind
      |true=>rw[hl]at he;simp at he;obtain⟨rfl,rfl⟩:=he;simp only[aas]at hl;have:=aav hl.1.2;subst this;exact K5 ho ht hs hx ji U3 e hl.1.1 h1 h2 (aax hl.2) ev hh
    ·cases he
   ·cases hc
  ·cases hc
 ·rename_i s x f ho;split at hc
  ·rename_i fs x' ht hx;split at hc
   ·rename_i off n hf;split at hc
    ·rename_i h0;simp at hc;subst hc;have hH:wr=none:=by grind[bw,Option.some.injEq,Prod.mk.injEq,reduceCtorEq]
     subst hH;exact HG ho ht hf h0 hx he ev hh
    ·cases hc
   ·cases hc
  ·cases hc
 ·rename_i t x i ho;split at hc
  ·rename_i x' i' hx hi;split at hc
   ·rename_i e ht;simp at hc;obtain⟨s,hs,rfl⟩:=hc;have hH:wr=none:=by grind[bw]
    subst hH;exact HH ho ht hs hx hi he ev hh
   ·rename_i n e ht;simp at hc;obtain⟨s,hs,rfl⟩:=hc;have hH:wr=none:=by simp only[bw]at he;grind
    subst hH;exact Ed ho ht hs hx hi he ev hh
   ·cases hc
  ·cases hc
 ·rename_i t x i ho;split at hc
  ·rename_i x' i' hx hi;split at hc
   ·rename_i ht;simp at hc;subst hc;have hH:wr=none:=by grind[bw,Option.some.injEq,Prod.mk.injEq,reduceCtorEq]
    subst hH;exact K7 ho ht hx hi he ev hh
   ·rename_i n e ht;split at hc
    ·rename_i s b hs hb;split at hc
     ·rename_i h1;simp at hc;subst hc;simp only[bw]at he;split at he
      ·cases he
      ·rename_i j ej;split at he
       ·rename_i cs e';cases hl:(Nat.blt j n&&Nat.ble (n*s) cs.length)with
         |false=>grind
         |true=>rw[hl]at he;simp at he;simp only[aas]at hl;obtain⟨v',fY,rfl,rfl⟩:=he;exact K8 ho ht hs hb h1 hx hi ej e' (by simp_all) (aax hl.2) fY ev hh
       ·cases he
     ·cases hc
    ·cases hc
   ·cases hc
  ·cases hc
 ·rename_i x i ho;simp at hc;obtain⟨x',hx,rfl⟩:=hc;simp only[bw]at he;split at he
  ·rename_i vs e;simp at he;obtain⟨v',fY,rfl,rfl⟩:=he;exact OF ho hx e fY ev hh
  ·cases he
 ·rename_i t x ho;split at hc
  ·cases hc
  ·rename_i d x' Vm ht hx;simp at hc;subst hc;simp only[bw,aat,aay]at he;obtain⟨rfl,rfl⟩:=he;exact Cj ho ht (fun m hm=>Vm m hm) hx ev hh
  ·cases hc
 ·rename_i t m k ok ho;have hl:∀{kk:dn}{z:V}{m' k':aX},bw ρ H ns (.lookup kk z ok m' k')=some (v,wr)->wr=none:=by intro kk z m' k' he;simp only[bw]at he;grind
  split at hc
  ·rename_i kt e m' k' ht hm hk;split at hc
   ·rename_i z q hz ow;simp at hc;subst hc;have:=hl he;subst this;exact rX (kk:=.int) ho ht ⟨q,ow⟩ hz hm hk he ev hh
   ·rename_i z hz ow;simp at hc;subst hc;have:=hl he;subst this;exact rX (kk:=.str) ho ht ow hz hm hk he ev hh
   ·rename_i z hz ow;simp at hc;subst hc;have:=hl he;subst this;exact rX (kk:=.bool) ho ht ow hz hm hk he ev hh
   ·cases hc
  ·cases hc
 ·rename_i t m k x ho;split at hc
  ·rename_i kt e m' k' x' ht hm hk hx;split at hc
   ·rename_i q ow;simp at hc;subst hc;exact rY (kk:=.int) ho ht ⟨q,ow⟩ hm hk hx he ev hh
   ·rename_i ow;simp at hc;subst hc;exact rY (kk:=.str) ho ht ow hm hk hx he ev hh
   ·rename_i ow;simp at hc;subst hc;exact rY (kk:=.bool) ho ht ow hm hk hx he ev hh
   ·cases hc
  ·cases hc
 ·rename_i t x ho;split at hc
  ·rename_i kt el ht;simp at hc;obtain⟨x',hx,rfl⟩:=hc;exact HJ ho ht hx he ev hh fC
  ·cases hc
 ·grind[Option.map_eq_some_iff,bw]
 ·rename_i it ho;simp at hc;obtain⟨x',hx,rfl⟩:=hc;exact HK ho hx he ev hh
 ·rename_i c ho;exact Er ho hc he ev hh fC
 ·cases hc
end
end Fw
/-
  A box that nobody writes any more is known as data from then on.
-/
namespace Fw
open Go
theorem iD(sz n:Nat)(l:List D):(fl sz n l).length=n:=by induction n generalizing l<;>grind[fl]
theorem cV.kE{w:World}{im:Nat->Prop}{aK:Nat}:∀{ds:List D}{vs:List Value}{off:Nat},ds.length=vs.length->(∀(j:Nat)(d:D)(v:Value),ds[j]? =some d->vs[j]? =some v->Rd w im d v)->(∀(j:Nat)(v:Value),vs[j]? =some v->w.cell? ⟨aK,off+j,none⟩=some v)->cV w im aK off ds
 |[],_,_,_,_,_=>by simp only[cV]
 |d::ds,[],_,hl,_,_=>by simp at hl
 |d::ds,v::vs,off,hl,h1,h2=>by simp only[cV];refine⟨⟨v,by have:=h2 0 v rfl;grind,h1 0 d v rfl rfl⟩,cV.kE (vs:=vs) (by grind) (fun j d' v' hd hv=>h1 (j+1) d' v' (by grind) (by grind)) (fun j v' hv=>?_ )⟩;have:=h2 (j+1) v' (by grind);grind
theorem cV.take{w:World}{im:Nat->Prop}{aK:Nat}:∀(k:Nat)(ds:List D)(q:Nat),cV w im aK q ds->cV w im aK q (ds.take k):=by
 intro k ds;induction ds generalizing k with
  |nil=>grind
  |cons d ds ih=>intro q hq;cases k<;>grind[cV]
theorem kF{w:World}{im:Nat->Prop}{aK sz:Nat}:∀{n:Nat}{off:Nat}{l:List D},n*sz<=l.length->cV w im aK off l->eD w im aK off sz (fl sz n l)
 |0,_,_,_,_=>by grind[fl,eD]
 |n+1,off,l,hl,h=>by
  simp only[fl,eD];have hle:sz<=l.length:=by grind
  refine⟨by simp;omega,cV.take _ _ _ h,?_ ⟩;exact kF (by grind) (cV.drop sz h)
mutual
def bV(b:Nat)(ds:List D):V->V| .ptr c h off=>bif Nat.beq c b then(bif Nat.beq h ds.length then .aL (ds.drop off)else .any)else .ptr c h off| .sl c h off len sz=>bif Nat.beq c b then(bif Nat.beq h ds.length&&Nat.ble (off+len*sz) h then .d (.list (fl sz len (ds.drop off)))else .any)else .sl c h off len sz| .map c=>bif Nat.beq c b then .any else .map c| .iter c m=>bif Nat.beq c b then .any else .iter c m| .gJ c=>bif Nat.beq c b then .any else .gJ c| .func f a c=>.func f (lz b ds a) (lz b ds c)| .iface t v=>.iface t (bV b ds v)| .agg cs=>.agg (lz b ds cs)| .tuple vs=>.tuple (lz b ds vs)|v=>v
def lz(b:Nat)(ds:List D):List V->List V|[]=>[]|v::vs=>bV b ds v::lz b ds vs
end
def eP(b:Nat)(ds:List D):bW->bW
 | .cells cs=>.cells (lz b ds cs)
 | .map es=>.map (es.map fun p=>(p.1,bV b ds p.2))
 | .loop n tm ps ca cb st=>.loop n (tm.map fun p=>(p.1,bV b ds p.2)) ps ca cb st
 |x=>x
def jM(b:Nat)(ds:List D)(n:Nat):ao->ao|[]=>[]|x::H=>(bif Nat.beq n b then none else x.map (eP b ds))::jM b ds (n+1) H
def kY:Option bW->Bool|some (.cells cs)=>cs.all eC|_=>true
def vN(H:ao)(b:Nat):Option (List D):=match aA H b with
 |some (.cells cs)=>gp cs
 |some .nil=>some []
 |_=>none
def G.del(g:G)(b:Nat):G:=⟨g.cr,fun c=>if c=b then none else g.γ c,g.fo,g.base⟩
theorem pY(b:Nat)(ds:List D):∀(H:ao)(n c:Nat),aA (jM b ds n H) c=if n+c=b then none else(aA H c).map (eP b ds)
 |[],n,c=>by simp[jM,aA]
 |x::H,n,0=>by simp_all[jM,aA,aci]
 |x::H,n,c+1=>by simp only[jM,aA];rw[pY b ds H (n+1) c];grind
theorem qO(b:Nat)(ds:List D):∀(H:ao)(n:Nat),(jM b ds n H).length=H.length|[],_=>rfl|x::H,n=>by simp[jM,qO b ds H (n+1)]
theorem kG{g:G}{w:World}{b k:Nat}(h:cw g w k):cw (g.del b) w k:=by
 refine⟨h.1,h.2.1,fun c x hx=>?_ ⟩;simp only[G.del]at hx;split at hx
 ·cases hx
 ·exact h.2.2 c x hx
theorem kH:∀{cs:List V}{ds:List D},gp cs=some ds->cs.length=ds.length/\∀(i:Nat)(d:D),ds[i]? =some d->cs[i]? =some (.d d)\/(cs[i]? =some .aj/\d=.list [])
 |[],ds,h=>by grind[gp,Option.some.injEq]
 |c::cs,ds,h=>by
  cases c with
   |d x=>simp only[gp,aaB]at h;obtain⟨ds',h1,rfl⟩:=h;obtain⟨h2,h3⟩:=kH h1;grind
   |aj=>simp only[gp,aaB]at h;obtain⟨ds',h1,rfl⟩:=h;obtain⟨h2,h3⟩:=kH h1;grind
   |_=>simp[gp]at h
def r_(g:G)(w:World)(b:Nat)(ds:List D):Prop:=match g.γ b with
 |some (.cells aK _ cur)=>cur=ds.length/\cw (g.del b) w aK/\cV w (cw (g.del b) w) aK 0 ds
 |some .nil=>ds=[]
 |_=>False
theorem JF{g:G}{w:World}{H:ao}{b:Nat}{ds:List D}(hh:ax g w H)(h:vN H b=some ds):r_ g w b ds:=by
 unfold vN at h;split at h
 ·rename_i cs hg;obtain⟨x,hx⟩:=hh.back b _ hg;obtain⟨_,y,hy,hr⟩:=hh.live b x hx;rw[hg]at hy;simp at hy;subst hy;obtain⟨hl,Ho⟩:=kH h;unfold r_;rw[hx];cases x with
   |cells aK cp cur=>
    have cA:=hr.lt aK rfl;have Hk:=hh.qL hx rfl;simp only[RB]at hr;obtain⟨r1,r2,r3,c,e,r4,r5,r6⟩:=hr;have nJ:cw (g.del b) w aK:=by
     refine⟨cA,Hk,fun c' x' kZ hk=>?_ ⟩;simp only[G.del]at kZ;split at kZ
     ·cases kZ
     ·rename_i fp;exact fp (hh.inj c' b x' _ aK kZ hx hk rfl)
    refine⟨by omega,nJ,?_ ⟩;have Z3:=r6.length;refine cV.kE (vs:=c.toList.take cs.length) (by omega) (fun j d v hd hv=>?_ ) (fun j v hv=>?_ )
    ·rcases Ho j d hd with hc|⟨hc,rfl⟩
     ·obtain⟨v',fY,A4⟩:=aM.get j r6 hc;rw[hv]at fY;simp at fY;subst fY;simp only[RV]at A4;exact Rd.keeps (fun k hk=>⟨kG hk,rfl⟩) _ _ A4
     ·obtain⟨v',fY,A4⟩:=aM.get j r6 hc;grind[Option.some.injEq,RV,Rd]
    grind[World.cell?]
   |nil=>grind[RB]
   |obj=>grind[RB]
 ·rename_i hg;simp at h;subst h;obtain⟨x,hx⟩:=hh.back b _ hg;obtain⟨_,y,hy,hr⟩:=hh.live b x hx;rw[hg]at hy;simp at hy;subst hy;unfold r_;grind[RB]
 ·cases h
mutual
theorem RV.lB{g:G}{w:World}{b:Nat}{ds:List D}(hf:r_ g w b ds):∀(u:V)(v:Value),RV g w u v->RV (g.del b) w (bV b ds u) v
 | .any,_,_=>by grind[bV,RV]
 | .d x,v,hv=>by simp only[bV,RV]at hv⊢;exact Rd.keeps (fun k hk=>⟨kG hk,rfl⟩) _ _ hv
 | .full es,v,hv=>by simp only[bV,RV]at hv⊢;exact⟨Rd.keeps (fun k hk=>⟨kG hk,rfl⟩) _ _ hv.1,hv.2⟩
 | .aj,_,hv=>by grind[bV,RV]
 | .ptr c h off,v,hv=>by
  simp only[bV];by_cases hc:c=b
  ·subst hc;simp;cases hb:Nat.beq h ds.length with
    |false=>simp only[aaK,RV]
    |true=>
     simp;have he:=aav hb;simp only[RV]at hv⊢;unfold r_ at hf;split at hf
     ·rename_i aK cp cur uC;obtain⟨f1,f2,f3⟩:=hf;obtain⟨Vn,cp',zH,e1,e2,e3⟩:=hv.2 _ uC;simp at e1;obtain⟨rfl,rfl,rfl⟩:=e1;exact⟨aK,off,e2 (by omega),fun _=>f2,by simpa using cV.drop off f3⟩
     all_goals grind
  ·rw[dv hc,aaK];simp_all[RV,G.del]
 | .lu,_,hv=>by grind[bV,RV]
 | .aL cs,v,hv=>by
  simp only[bV,RV]at hv⊢;obtain⟨aK,off,h1,h2,h3⟩:=hv;refine⟨aK,off,h1,fun hn=>kG (h2 hn),?_ ⟩;cases cs with
   |nil=>simp only[cV]
   |cons c cs=>exact cV.keeps (im:=cw g w) (vD:=cw (g.del b) w) (fun k hk=>⟨kG hk,rfl⟩) (h2 (by simp)) _ _ h3
 | .sl c h off len sz,v,hv=>by
  simp only[bV];by_cases hc:c=b
  ·subst hc;simp;cases hb:(Nat.beq h ds.length&&Nat.ble (off+len*sz) h)with
    |false=>simp only[aaK,RV]
    |true=>
     simp;simp only[aas]at hb;have he:=aav hb.1;have hle:=aax hb.2;simp only[RV,Rd,iD]at hv⊢;unfold r_ at hf;split at hf
     ·rename_i aK cp cur uC;obtain⟨f1,f2,f3⟩:=hf;have hx:=hv.2 _ uC;obtain⟨cap,k1,k2,k3⟩:=hx.2 (by omega);right;exact⟨aK,off,cap,sz,k1,k2,fun _=>f2,kF (by simp;omega) (by simpa using cV.drop off f3)⟩
     ·rename_i uC;have hx:=hv.2 _ uC;obtain⟨rfl,rfl,rfl,rfl⟩:=hx;left;exact⟨rfl,.inl rfl⟩
     grind
  ·rw[dv hc,aaK];simp_all[RV,G.del]
 | .map c,v,hv=>by
  simp only[bV];by_cases hc:c=b
  ·simp_all[aaS,aaw,RV]
  ·rw[dv hc,aaK];simp_all[RV,G.del]
 | .kj,_,hv=>by grind[bV,RV]
 | .func f a c,v,hv=>by simp only[bV,RV]at hv⊢;obtain⟨x,y,h1,h2,h3⟩:=hv;exact⟨x,y,h1,aM.lB hf _ _ h2,aM.lB hf _ _ h3⟩
 | .ob,_,hv=>by grind[bV,RV]
 | .iface t u,v,hv=>by simp only[bV,RV]at hv⊢;obtain⟨x,h1,h2⟩:=hv;exact⟨x,h1,RV.lB hf _ _ h2⟩
 | .bD,_,hv=>by grind[bV,RV]
 | .fA,_,hv=>by grind[bV,RV]
 | .agg cs,v,hv=>by simp only[bV,RV]at hv⊢;obtain⟨x,h1,h2⟩:=hv;exact⟨x,h1,aM.lB hf _ _ h2⟩
 | .tuple vs,v,hv=>by simp only[bV,RV]at hv⊢;obtain⟨x,h1,h2⟩:=hv;exact⟨x,h1,aM.lB hf _ _ h2⟩
 | .iter c _,v,hv=>by
  simp only[bV];by_cases hc:c=b
  ·simp_all[aaS,aaw,RV]
  ·rw[dv hc,aaK];simp_all[RV,G.del]
 | .gJ c,v,hv=>by
  simp only[bV];by_cases hc:c=b
  ·simp_all[aaS,aaw,RV]
  ·rw[dv hc,aaK];simp_all[RV,G.del]
theorem aM.lB{g:G}{w:World}{b:Nat}{ds:List D}(hf:r_ g w b ds):∀(us:List V)(vs:List Value),aM g w us vs->aM (g.del b) w (lz b ds us) vs
 |[],[],_=>by grind[lz,aM]
 |u::us,v::vs,hv=>by simp only[lz,aM]at hv⊢;exact⟨RV.lB hf _ _ hv.1,aM.lB hf _ _ hv.2⟩
 |[],_::_,hv=>by grind[aM]
 |_::_,[],hv=>by grind[aM]
end
variable {w:World}{b:Nat}
theorem iE(f:V->V)(hf:f .any=.any):∀(l:List (Nat×V))(t:Nat),get (l.map fun p=>(p.1,f p.2)) t=f (get l t)
 |[],t=>by simp[get,hf]
 |(s,u)::l,t=>by simp only[aaG,get,iE f hf l t];grind
theorem ju(b:Nat)(ds:List D):∀(l:List V),(lz b ds l).length=l.length|[]=>rfl|_::l=>by simp[lz,ju b ds l]
theorem bA.lB{g:G}(g0:G)(w0:World)(h:bA g0 w0 g w):bA g0 w0 (g.del b) w:=⟨h.os,h.tape,h.output,h.size,fun k hk=>⟨kG (h.keeps k hk).1,(h.keeps k hk).2⟩,h.cr,fun c hc=>by
 simp only[G.del];split
 ·grind[GB.step]
 ·exact h.step c hc,h.fo,h.base,h.dB⟩
theorem ax.lB{g:G}{H:ao}{ds:List D}(hh:ax g w H)(h:vN H b=some ds)(kz:(jM b ds 0 H).all kY=true):ax (g.del b) w (jM b ds 0 H):=by
 have hf:=JF hh h;refine⟨fun c hc=>by rw[qO];exact hh.cr c hc,fun c x hx=>?_,fun c y hy=>?_,fun c c' x x' k hx kZ hk kg=>?_,fun k hk=>⟨(hh.fo k hk).1,fun c x hx=>?_ ⟩⟩
 ·simp only[G.del]at hx;split at hx
  ·cases hx
  ·rename_i DR;obtain⟨h1,y,h2,h3⟩:=hh.live c x hx;have hg:aA (jM b ds 0 H) c=some (eP b ds y):=by grind[pY]
   refine⟨h1,_,hg,?_⟩;cases x with
    |cells aK cp cur=>
     cases y with
      |cells cs=>
       simp only[RB,eP]at h3⊢;obtain⟨r1,r2,r3,cc,e,r4,r5,r6⟩:=h3;refine⟨by grind[ju],?_,by grind[ju],cc,e,r4,r5,?_ ⟩
       ·have hm:some (bW.cells (lz b ds cs))∈jM b ds 0 H:=by
         have:∀(H:ao)(c:Nat)(y:bW),aA H c=some y->some y∈H:=by
          intro H;induction H with
           |nil=>grind[aA]
           |cons z H ih=>intro c y hy;cases c<;>grind[aA]
         exact this _ _ _ hg
        grind[kY]
       ·rw[ju];exact aM.lB hf _ _ r6
      |_=>grind[RB]
    |nil=>grind[RB,eP]
    |obj aK=>
     cases y with
      |map es=>simp only[RB,eP]at h3⊢;obtain⟨bG,clock,e1,e2,e3,e4,e5⟩:=h3;refine⟨bG,clock,e1,by simp[e2],fun i k v hi=>?_,e4,e5⟩;simp only[aa9,aaB,aay]at hi;obtain⟨⟨k',v'⟩,jU,rfl,rfl⟩:=hi;obtain⟨z,z1,z2,z3,z4⟩:=e3 i k' v' jU;exact⟨z,z1,z2,Rd.keeps (fun k hk=>⟨kG hk,rfl⟩) _ _ z3,RV.lB hf _ _ z4⟩
      |uo s pos=>grind[RB,eP]
      |loop n tm ps ca cb st=>simp only[RB,eP]at h3⊢;obtain⟨r,e1,e2,e3,e4⟩:=h3;exact⟨r,e1,e2,fun t=>by rw[iE (bV b ds) (by simp only[bV])];exact RV.lB hf _ _ (e3 t),e4⟩
      |bM m n seen=>simp only[RB,eP]at h3⊢;obtain⟨mb,sa,e1,e2,e3,e4⟩:=h3;refine⟨mb,sa,e1,e2,e3,fun x hx=>e4 x ?_ ⟩;grind[G.del]
      |_=>grind[RB]
 ·rw[pY]at hy;split at hy
  ·cases hy
  ·rename_i DR;simp at hy;obtain⟨y',tQ,rfl⟩:=hy;obtain⟨x,hx⟩:=hh.back c y' tQ;grind[G.del]
 ·simp only[G.del]at hx kZ;split at hx
  ·cases hx
  ·split at kZ
   ·cases kZ
   ·exact hh.inj c c' x x' k hx kZ hk kg
 ·simp only[G.del]at hx;split at hx
  ·cases hx
  ·exact(hh.fo k hk).2 c x hx
def la(b:Nat)(σ:St):Option St:=match vN σ.hp b with
 |some ds=>bif (jM b ds 0 σ.hp).all kY then some ⟨σ.n,σ.tm.map fun p=>(p.1,bV b ds p.2),jM b ds 0 σ.hp⟩else none
 |none=>none
theorem R.lB{GL:bR}{g:G}{a:Act}{σ bg:St}(h:R GL g w a σ)(hc:la b σ=some bg):R GL (g.del b) w a bg:=by
 unfold la at hc;split at hc
 ·rename_i ds Ho;cases kz:(jM b ds 0 σ.hp).all kY with
   |false=>grind
   |true=>rw[kz]at hc;simp at hc;subst hc;refine⟨h.defers.ext (bA.lB _ _ (bA.refl _ _)),h.size,fun t=>?_,h.heap.lB Ho kz,h.cB.ext (bA.lB _ _ (bA.refl _ _))⟩;simp only;rw[iE (bV b ds) (by simp only[bV])];exact RV.lB (JF h.heap Ho) _ _ (h.tmps t)
 ·cases hc
def jN(ρ:aX->V):jG->Option V
 | .mkSlice sz len z ps=>
  match eR ρ z ps with
   |some cs=>
    match gp cs with
     |some ds=>some (bif Nat.beq len 0 then .full []else .d (.list (fl sz len ds)))
     |none=>none
   |none=>none
 | .append sz bytes x y=>
  match ρ x,ρ y with
   | .full es,.d (.list ys)=>bif es.all (fun e=>Nat.beq e.length sz)&&ys.all (fun e=>Nat.beq e.length sz)&& !ys.isEmpty&&Nat.ble ((es.flatten.length+ys.flatten.length)*(bytes+1)) cf then some (.d (.list (es++ys)))else none
   |_,_=>none
 |_=>none
section
variable {P:Program}{a:Act}{o:Oper}{g:G}{w:World}{ρ:aX->V}{H:ao}{ns:Nat}
theorem oJ{op:Op}{sz len:Nat}{z:List V}{ps:List (Nat×Nat×aX)}(h:aU P op=some (.mkSlice sz len z ps)):∃t e z0 qs,op=.buildSlice t len qs/\P.underlying t=some (.slice e)/\fD P e=some sz/\di P e=some z0/\len*sz<=2^24/\z0.length=sz/\0<sz/\dD (fun i=>some (i*sz,sz)) qs.toList=some ps/\z=(List.range (len*sz)).map fun i=>z0.getD (i%sz) .any:=by
 cases op with
  |buildSlice t aae qs=>grind[aU,Option.map_eq_some_iff,jG.mkSlice.injEq]
  |makeFunc fn a b=>exfalso;cases fn<;>(grind[aU])
  |makeMap t r=>exfalso;cases r<;>(grind[aU])
  |slice t x lo hi mx=>exfalso;cases mx<;>cases lo<;>cases hi<;>(simp only[aU]at h;(repeat' split at h)<;>simp at h)
  |call c=>exfalso;simp only[aU,dq]at h;(repeat' split at h)<;>simp at h
  |_=>exfalso;simp only[aU]at h;(repeat' split at h)<;>simp at h
theorem bA.zI{g:G}{w:World}{H:ao}(hh:ax g w H)(o:Obj):bA g w g (w.alloc o)/\ax g (w.alloc o) H/\cw g (w.alloc o) w.heap.size:=by
 have he:bA g w g (w.alloc o):=⟨rfl,rfl,rfl,by simp,fun k hk=>⟨⟨by have:=hk.1;simp;omega,hk.2⟩,ct _ _ hk.1⟩,fun _ h=>h,fun _ _=>GB.step.refl _,rfl,rfl,fun k hk=>ct _ _ (hh.fo k hk).1⟩;have gq:∀b x k,g.γ b=some x->x.own=some k->k<w.heap.size:=fun b x k hx hk=>by obtain⟨_,y,_,hr⟩:=hh.live b x hx;exact hr.lt k hk
 refine⟨he,hh.ext he (fun b x k hx hk=>ct _ _ (gq b x k hx hk)),by simp,fun h=>?_,fun b x hx hk=>?_ ⟩
 ·have:=(hh.fo _ h).1;omega
 grind
theorem qP{op:Op}{sz bytes:Nat}{x' y':aX}(h:aU P op=some (.append sz bytes x' y')):∃(x y:Operand)(t u e:TypeId)(i:TypeInfo)(z:List V),op=.call {callee:=.builtin .append,args:= #[x,y],argTypes:= #[t,u]}/\P.underlying t=some (.slice e)/\((∃e2,P.underlying u=some (.slice e2))\/P.underlying u=some .string)/\P.info? e=some i/\di P e=some z/\0<i.size/\z.length=i.size/\aw x=some x'/\aw y=some y'/\sz=i.size/\bytes=i.bytes:=by
 cases op with
  |call c=>
   simp only[aU]at h;obtain⟨callee,args,ts⟩:=c;unfold dq at h;split at h
   ·exfalso;(repeat' split at h)<;>simp at h
   ·rename_i e_;split at h
    ·rename_i x y t u gW Hn;split at h
     ·grind
     ·rename_i e d Vm hu Jz;split at h
      ·rename_i i z x1 y1 hd hi hz hx hy;split at h
       ·rename_i eS;simp at h;obtain⟨rfl,rfl,rfl,rfl⟩:=h;have e1:args= #[x,y]:=aa3.1 (by grind);have e2:ts= #[t,u]:=aa3.1 (by grind);simp only at e_;subst e_;subst e1;subst e2;refine⟨x,y,t,u,e,i,z,rfl,hu,?_,hi,hz,eS.1,eS.2,hx,hy,rfl,rfl⟩;cases d<;>simp[KW]at hd;all_goals grind
       ·cases h
      ·cases h
     ·cases h
    ·cases h
   all_goals (exfalso;(repeat' split at h)<;>simp at h)
  |makeFunc fn a b=>exfalso;cases fn<;>(grind[aU])
  |makeMap t r=>exfalso;cases r<;>(grind[aU])
  |slice t x lo hi mx=>exfalso;cases mx<;>cases lo<;>cases hi<;>(simp only[aU]at h;(repeat' split at h)<;>simp at h)
  |_=>exfalso;simp only[aU]at h;(repeat' split at h)<;>simp at h
theorem Et{sz bytes:Nat}{x' y':aX}{es ys:List (List D)}(fX:aU P o.op=some (.append sz bytes x' y'))(ex:ρ x'=.full es)(ey:ρ y'=.d (.list ys))(hc:(es.all (fun e=>Nat.beq e.length sz)&&ys.all (fun e=>Nat.beq e.length sz)&& !ys.isEmpty&&Nat.ble ((es.flatten.length+ys.flatten.length)*(bytes+1)) cf)=true)(ev:Ev ρ a g w)(hh:ax g w H):∃w' r,(execOp a.eval o).run P w=.ok (.value r) w'/\RV g w' (.d (.list (es++ys))) r/\ax g w' H/\bA g w g w':=by
 obtain⟨x,y,t,u,e,i,zs,ho,ht,hu,hi,hz,h0,UY,hx,hy,rfl,rfl⟩:=qP fX;have cW:=ev _ _ hx;have eO:=ev _ _ hy;rw[ex]at cW;rw[ey]at eO;simp only[aas]at hc;obtain⟨⟨⟨c1,c2⟩,c3⟩,c4⟩:=hc;simp only[di,aa7]at hz;obtain⟨z,⟨i',jU,xp⟩,hm⟩:=hz;rw[hi]at jU;simp at jU;subst jU;have La:z.cells.size=i.size:=by have:=bU hm;grind
 have Ui:bE H i.size (.d (.list ys))=some (ys.flatten.map .d):=by simp only[bE,c2,aaw]
 have hsx:bE H i.size (.d (.list es))=some (es.flatten.map .d):=by simp only[bE,c1,aaw]
 simp only[RV]at cW;obtain⟨hd,a0,hv⟩:=cW;have OM:RV g w (.d (.list es)) (a.eval x):=by grind[RV]
 obtain⟨n,news,f1,-,f3,f4⟩:=fu (P:=P) Ui eO hh h0;obtain⟨n',et,-,U7,JB,ZU⟩:=fu (P:=P) Ui (RV.ext (eF g w) _ _ eO) hh.drew h0;obtain⟨m,jL,q1,q2,q3,q4⟩:=fu (P:=P) hsx (RV.ext (eF g w) _ _ OM) hh.drew h0;have U8:n'=n:=by
  have e1:=JB.length;have e2:=f3.length;have:n'*i.size=n*i.size:=by omega
  exact abZ h0 this
 subst U8;rw[hv]at q1 q2;have Vo:m=es.length:=by simp_all[Builtin.lenOf]
 subst Vo;have Z4:ys.flatten.length=n'*i.size:=by have:=f3.length;grind
 have Vp:es.flatten.length=es.length*i.size:=by have:=q3.length;grind
 have A7:∀(l:List (List D)),l.all (fun e=>Nat.beq e.length i.size)=true->l.flatten.length=l.length*i.size:=by
  intro l hl;induction l with
   |nil=>simp
   |cons e l ih=>simp only[aaM,aas]at hl;simp only[acC,aap,aaq];rw[ih hl.2,aav hl.1,abI];omega
 have hyn:ys.length=n':=by have:=A7 ys c2;rw[Z4]at this;exact(abZ h0 this).symm
 have kC:0<n':=by grind
 have c4:=aax c4;have hle:es.length+n'<=es.flatten.length+ys.flatten.length:=by rw[Vp,Z4,←abI];exact abo _ h0
 have hb:(es.length+n')*i.bytes<=140737488355328:=by
  have e1:(es.length+n')*i.bytes<=(es.flatten.length+ys.flatten.length)*(i.bytes+1):=Nat.mul_le_mul hle (by omega);have e2:cf<=140737488355328:=by decide
  omega
 have Ue:es.length+n'<=140737488355328:=by
  have e1:es.length+n'<=(es.flatten.length+ys.flatten.length)*(i.bytes+1):=abt hle (abo _ (by omega));have e2:cf<=140737488355328:=by decide
  omega
 have hr:=ot (ty:=o.type) ht hu hi xp f1 U7 q2 (by omega) (by omega) (growslice_fits (by omega) hb);have OQ:(execOp a.eval o).run P w=.ok (.value (.slice (some ⟨w.heap.size,0,none⟩) (es.length+n') (grownCap w (es.length+n') es.length e))) (w.drew.alloc (.cells (jL.toArray++et.toArray++Builtin.zeroCells z.cells (grownCap w (es.length+n') es.length e - (es.length+n'))) e)):=by simp_all[execOp,resolve,invoke,builtin]
 obtain⟨g1,g2,g3⟩:=bA.zI hh.drew (.cells (jL.toArray++et.toArray++Builtin.zeroCells z.cells (grownCap w (es.length+n') es.length e - (es.length+n'))) e);refine⟨_,_,OQ,?_,g2,(eF g w).trans g1⟩;simp only[RV,Rd];right;have hlen:(es++ys).length=es.length+n':=by grind
 refine⟨w.heap.size,0,_,i.size,by rw[hlen],by rw[hlen];exact grownCap_ge _ _ _ _,fun _=>g3,?_ ⟩;have jj:(es++ys).all (fun e=>Nat.beq e.length i.size)=true:=by grind
 have Uj:es++ys=fl i.size (es.length+n') ((es++ys).flatten):=by
  rw[←hlen];have:∀(l:List (List D)),l.all (fun e=>Nat.beq e.length i.size)=true->l=fl i.size l.length l.flatten:=by
   intro l hl;induction l with
    |nil=>rfl
    |cons e l ih=>simp only[aaM,aas]at hl;have HP:=aav hl.1;grind[List.flatten_cons,List.length_cons,fl,List.take_left,List.drop_left]
  grind
 rw[Uj];have N3:(es++ys).flatten.length=(es.length+n')*i.size:=by grind
 have zJ:aM g w.drew ((es++ys).flatten.map .d) (jL++et):=by rw[List.flatten_append,abl];exact aM.append q3 JB
 refine kF (by omega) ?_;refine cV.kE (vs:=jL++et) ?_ (fun j d v hd hv=>?_ ) (fun j v hv=>?_ )
 ·grind
 ·obtain⟨v',fY,A4⟩:=aM.get j zJ (show((es++ys).flatten.map V.d)[j]? =some (.d d) by grind);rw[hv]at fY;simp at fY;subst fY;simp only[RV]at A4;exact Rd.keeps g1.keeps _ _ A4
 ·have hs:(w.drew.alloc (.cells (jL.toArray++et.toArray++Builtin.zeroCells z.cells (grownCap w (es.length+n') es.length e - (es.length+n'))) e)).heap[w.heap.size]? =some (.cells (jL.toArray++et.toArray++Builtin.zeroCells z.cells (grownCap w (es.length+n') es.length e - (es.length+n'))) e (0,0)):=bf _ _;simp only[World.cell?,hs,aaR];grind
theorem uD{io:jG}{v:V}(fX:aU P o.op=some io)(he:jN ρ io=some v)(ev:Ev ρ a g w)(hh:ax g w H):∃w' x,(execOp a.eval o).run P w=.ok (.value x) w'/\RV g w' v x/\ax g w' H/\bA g w g w':=by
 cases io with
  |mkSlice sz len z ps=>
   simp only[jN]at he;split at he
   ·rename_i cs nI;split at he
    ·rename_i ds Ho;simp at he;subst he;obtain⟨t,e,z0,qs,ho,hu,hs,hz,h1,h2,h3,hq,rfl⟩:=oJ fX;obtain⟨c',k1,k2,k3,k4⟩:=lF ho hu hs hz h1 h2 h3 hq nI ev;obtain⟨f1,f2,f3⟩:=bA.zI hh (.cells c' e);refine⟨_,_,k4,?_,f2,f1⟩;cases uB:Nat.beq len 0 with
      |true=>simp_all[aaw,RV,Rd,aar]
      |false=>
       simp only[aaK,RV,Rd,iD];right;obtain⟨hl,aA⟩:=kH Ho;have hk:=k1.length;refine⟨_,0,len,sz,rfl,aaE _,fun _=>f3,kF (by omega) ?_ ⟩;refine cV.kE (vs:=c'.toList) (by omega) (fun j d v hd hv=>?_ ) (fun j v hv=>?_ )
       ·rcases aA j d hd with hc|⟨hc,rfl⟩
        ·obtain⟨v',fY,A4⟩:=aM.get j k1 hc;rw[hv]at fY;simp at fY;subst fY;simp only[RV]at A4;exact Rd.keeps f1.keeps _ _ A4
        ·obtain⟨v',fY,A4⟩:=aM.get j k1 hc;grind[Option.some.injEq,RV,Rd]
       simp_all
    ·cases he
   ·cases he
  |append sz bytes x' y'=>
   simp only[jN]at he;split at he
   ·rename_i es ys ex ey;cases hc:(es.all (fun e=>Nat.beq e.length sz)&&ys.all (fun e=>Nat.beq e.length sz)&& !ys.isEmpty&&Nat.ble ((es.flatten.length+ys.flatten.length)*(bytes+1)) cf)with
     |false=>grind
     |true=>rw[hc]at he;simp at he;subst he;exact Et fX ex ey hc ev hh
   ·cases he
  |_=>grind[jN]
end
end Fw
