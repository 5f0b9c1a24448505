/- Facts on types,and which functions can be called. -/
import Derived.Test.YtfkhlbhjhdpkoaaDoorZmaf
import Derived.Test.YtfkhlbhjhdpkoaaDoorRows
set_option linter.unusedVariables false
set_option linter.unusedSimpArgs false
namespace Go.Proofs.YtfkhlbhjhdpkoaaDoor
open Go.RowKit
theorem JfM:JM Tryd.prog 3=true:=by kernel_rfl
theorem Jgk:Jf Tryd.prog 3=1:=by kernel_rfl
theorem JhA:tAgg Tryd.prog 3=false:=by kernel_rfl
theorem Jh1:tZok Tryd.prog 3=true:=by kernel_rfl
theorem tZ_3:tZ Tryd.prog 3=[.int .i64 0]:=by kernel_rfl
theorem Ji2:tCS Tryd.prog 3=[0]:=by kernel_rfl
theorem Jfz:Vk Tryd.prog 3=8:=by kernel_rfl
theorem Jfi:JM Tryd.prog 4=true:=by kernel_rfl
theorem JgP:Jf Tryd.prog 4=1:=by kernel_rfl
theorem Jhr:tAgg Tryd.prog 4=false:=by kernel_rfl
theorem JhL:tZok Tryd.prog 4=true:=by kernel_rfl
theorem tZ_4:tZ Tryd.prog 4=[.bool false]:=by kernel_rfl
theorem JiU:tCS Tryd.prog 4=[0]:=by kernel_rfl
theorem JfL:JM Tryd.prog 5=true:=by kernel_rfl
theorem Jgw:Jf Tryd.prog 5=1:=by kernel_rfl
theorem Jia:tAgg Tryd.prog 5=false:=by kernel_rfl
theorem Jih:tZok Tryd.prog 5=true:=by kernel_rfl
theorem tZ_5:tZ Tryd.prog 5=[.int .u8 0]:=by kernel_rfl
theorem JiX:tCS Tryd.prog 5=[0]:=by kernel_rfl
theorem JfC:Vk Tryd.prog 5=1:=by kernel_rfl
theorem JiT:tZ1 Tryd.prog 5=true:=by kernel_rfl
theorem Jfq:JM Tryd.prog 9=true:=by kernel_rfl
theorem JgA:Jf Tryd.prog 9=1:=by kernel_rfl
theorem JhO:tAgg Tryd.prog 9=false:=by kernel_rfl
theorem Jhm:tZok Tryd.prog 9=true:=by kernel_rfl
theorem tZ_9:tZ Tryd.prog 9=[str []]:=by kernel_rfl
theorem Ji0:tCS Tryd.prog 9=[0]:=by kernel_rfl
theorem Jfr:Vk Tryd.prog 9=16:=by kernel_rfl
theorem Jc0:X8 Tryd.prog 9=true:=by kernel_rfl
theorem Je0:Zr Tryd.prog 23=1:=by kernel_rfl
theorem Jeo:Jn Tryd.prog 23=true:=by kernel_rfl
theorem JfD:Jg Tryd.prog 23=33:=by kernel_rfl
theorem Jd5:Jag 23=true:=by kernel_rfl
theorem Jfb:Xo 23=true:=by kernel_rfl
theorem Jfv:Zr Tryd.prog 24=1:=by kernel_rfl
theorem Jd7:Jn Tryd.prog 24=true:=by kernel_rfl
theorem Jfw:Jg Tryd.prog 24=41:=by kernel_rfl
theorem Jez:Jag 24=true:=by kernel_rfl
theorem Jfj:Xo 24=true:=by kernel_rfl
theorem JdW:JM Tryd.prog 26=true:=by kernel_rfl
theorem JeS:Jf Tryd.prog 26=1:=by kernel_rfl
theorem JgL:tAgg Tryd.prog 26=false:=by kernel_rfl
theorem Jhw:tCS Tryd.prog 26=[0]:=by kernel_rfl
theorem Jeg:JM Tryd.prog 28=true:=by kernel_rfl
theorem Je2:Jf Tryd.prog 28=3:=by kernel_rfl
theorem Jgf:tAgg Tryd.prog 28=true:=by kernel_rfl
theorem Jgl:tZok Tryd.prog 28=true:=by kernel_rfl
theorem Ji3:tZ Tryd.prog 28=[.int .i64 0,.int .i64 0,.int .i64 0]:=by kernel_rfl
theorem JhJ:tCS Tryd.prog 28=[0,0,0]:=by kernel_rfl
theorem JdK:Jby Tryd.prog 28=true:=by kernel_rfl
theorem Jff:Jb7 Tryd.prog 28=true:=by kernel_rfl
theorem Jeu:JbP Tryd.prog 28=[1,1,1]:=by kernel_rfl
theorem JbM:Ki Tryd.prog 28 0=true:=by kernel_rfl
theorem Jey:tOff Tryd.prog 28 0=0:=by kernel_rfl
theorem Jdu:tFld Tryd.prog 28 0=26:=by kernel_rfl
theorem JbR:Ki Tryd.prog 28 1=true:=by kernel_rfl
theorem Jej:tOff Tryd.prog 28 1=1:=by kernel_rfl
theorem Jex:tFld Tryd.prog 28 1=3:=by kernel_rfl
theorem JbB:Ki Tryd.prog 28 2=true:=by kernel_rfl
theorem JdF:tOff Tryd.prog 28 2=2:=by kernel_rfl
theorem JdJ:tFld Tryd.prog 28 2=3:=by kernel_rfl
theorem JdT:JM Tryd.prog 33=true:=by kernel_rfl
theorem JfJ:Jf Tryd.prog 33=2:=by kernel_rfl
theorem JgJ:tAgg Tryd.prog 33=true:=by kernel_rfl
theorem JgB:tZok Tryd.prog 33=true:=by kernel_rfl
theorem JiZ:tZ Tryd.prog 33=[str [],str []]:=by kernel_rfl
theorem Jik:tCS Tryd.prog 33=[0,0]:=by kernel_rfl
theorem Jev:Vk Tryd.prog 33=32:=by kernel_rfl
theorem Jed:Jby Tryd.prog 33=true:=by kernel_rfl
theorem Jfk:Jb7 Tryd.prog 33=true:=by kernel_rfl
theorem JdQ:JbP Tryd.prog 33=[2,2]:=by kernel_rfl
theorem JbF:Ki Tryd.prog 33 0=true:=by kernel_rfl
theorem JdP:tOff Tryd.prog 33 0=0:=by kernel_rfl
theorem JdY:tFld Tryd.prog 33 0=9:=by kernel_rfl
theorem Jbz:Ki Tryd.prog 33 1=true:=by kernel_rfl
theorem JdZ:tOff Tryd.prog 33 1=1:=by kernel_rfl
theorem Jdy:tFld Tryd.prog 33 1=9:=by kernel_rfl
theorem Jd1:JM Tryd.prog 41=true:=by kernel_rfl
theorem Jfl:Jf Tryd.prog 41=4:=by kernel_rfl
theorem Jgt:tAgg Tryd.prog 41=true:=by kernel_rfl
theorem Jgq:tZok Tryd.prog 41=true:=by kernel_rfl
theorem JiV:tZ Tryd.prog 41=[.int .i64 0,.int .i64 0,.int .i64 0,str []]:=by kernel_rfl
theorem Jho:tCS Tryd.prog 41=[0,0,0,0]:=by kernel_rfl
theorem Jei:Vk Tryd.prog 41=40:=by kernel_rfl
theorem JdH:Jby Tryd.prog 41=true:=by kernel_rfl
theorem JbA:Ki Tryd.prog 41 0=true:=by kernel_rfl
theorem Jd2:tOff Tryd.prog 41 0=0:=by kernel_rfl
theorem Jel:tFld Tryd.prog 41 0=3:=by kernel_rfl
theorem JbC:Ki Tryd.prog 41 1=true:=by kernel_rfl
theorem Jdz:tOff Tryd.prog 41 1=1:=by kernel_rfl
theorem Jem:tFld Tryd.prog 41 1=3:=by kernel_rfl
theorem JbZ:Ki Tryd.prog 41 2=true:=by kernel_rfl
theorem JdE:tOff Tryd.prog 41 2=2:=by kernel_rfl
theorem Jd3:tFld Tryd.prog 41 2=3:=by kernel_rfl
theorem JbS:Ki Tryd.prog 41 3=true:=by kernel_rfl
theorem JdL:tOff Tryd.prog 41 3=3:=by kernel_rfl
theorem Jew:tFld Tryd.prog 41 3=9:=by kernel_rfl
theorem Jdw:JM Tryd.prog 48=true:=by kernel_rfl
theorem Je1:Jf Tryd.prog 48=1:=by kernel_rfl
theorem Jgn:tAgg Tryd.prog 48=false:=by kernel_rfl
theorem JhT:tCS Tryd.prog 48=[1]:=by kernel_rfl
theorem Jep:Jn Tryd.prog 48=true:=by kernel_rfl
theorem JfF:Jg Tryd.prog 48=5:=by kernel_rfl
theorem JdS:Jag 48=false:=by kernel_rfl
theorem JeO:Xo 48=false:=by kernel_rfl
theorem Jes:JM Tryd.prog 49=true:=by kernel_rfl
theorem JfI:Jf Tryd.prog 49=1:=by kernel_rfl
theorem Jgx:tAgg Tryd.prog 49=false:=by kernel_rfl
theorem Jgi:tZok Tryd.prog 49=true:=by kernel_rfl
theorem Ji1:tZ Tryd.prog 49=[.slice none 0 0]:=by kernel_rfl
theorem JhD:tCS Tryd.prog 49=[1]:=by kernel_rfl
theorem JdC:Jn Tryd.prog 49=true:=by kernel_rfl
theorem Je9:Jg Tryd.prog 49=9:=by kernel_rfl
theorem Jet:Jag 49=false:=by kernel_rfl
theorem Jfo:Xo 49=true:=by kernel_rfl
theorem Jee:Jn Tryd.prog 81=true:=by kernel_rfl
theorem JfQ:Jg Tryd.prog 81=3:=by kernel_rfl
theorem y_3:((((type_of% @Tryd.underlying3)∧(type_of% @JhA))∧((type_of% @Jfz)∧(type_of% @Ji2)))∧(((type_of% @JfM)∧(type_of% @Jgk))∧((type_of% @tZ_3)∧(type_of% @Jh1)))):=⟨⟨⟨@Tryd.underlying3,@JhA⟩,⟨@Jfz,@Ji2⟩⟩,⟨⟨@JfM,@Jgk⟩,⟨@tZ_3,@Jh1⟩⟩⟩
theorem y_4:(((type_of% @Tryd.underlying4)∧((type_of% @Jhr)∧(type_of% @JiU)))∧(((type_of% @Jfi)∧(type_of% @JgP))∧((type_of% @tZ_4)∧(type_of% @JhL)))):=⟨⟨@Tryd.underlying4,⟨@Jhr,@JiU⟩⟩,⟨⟨@Jfi,@JgP⟩,⟨@tZ_4,@JhL⟩⟩⟩
theorem y_5:((((type_of% @Tryd.underlying5)∧(type_of% @Jia))∧((type_of% @JfC)∧(type_of% @JiX)))∧(((type_of% @JfL)∧(type_of% @Jgw))∧((type_of% @JiT)∧((type_of% @tZ_5)∧(type_of% @Jih))))):=⟨⟨⟨@Tryd.underlying5,@Jia⟩,⟨@JfC,@JiX⟩⟩,⟨⟨@JfL,@Jgw⟩,⟨@JiT,⟨@tZ_5,@Jih⟩⟩⟩⟩
theorem y_9:((((type_of% @Tryd.underlying9)∧(type_of% @JhO))∧((type_of% @Jfr)∧(type_of% @Ji0)))∧(((type_of% @Jfq)∧(type_of% @Jc0))∧((type_of% @JgA)∧((type_of% @tZ_9)∧(type_of% @Jhm))))):=⟨⟨⟨@Tryd.underlying9,@JhO⟩,⟨@Jfr,@Ji0⟩⟩,⟨⟨@Jfq,@Jc0⟩,⟨@JgA,⟨@tZ_9,@Jhm⟩⟩⟩⟩
theorem y_23:(((type_of% @Jd5)∧(type_of% @Jfb))∧((type_of% @JfD)∧((type_of% @Je0)∧(type_of% @Jeo)))):=⟨⟨@Jd5,@Jfb⟩,⟨@JfD,⟨@Je0,@Jeo⟩⟩⟩
theorem y_24:(((type_of% @Jez)∧(type_of% @Jfj))∧((type_of% @Jfw)∧((type_of% @Jfv)∧(type_of% @Jd7)))):=⟨⟨@Jez,@Jfj⟩,⟨@Jfw,⟨@Jfv,@Jd7⟩⟩⟩
theorem y_26:(((type_of% @JgL)∧(type_of% @Jhw))∧((type_of% @JdW)∧(type_of% @JeS))):=⟨⟨@JgL,@Jhw⟩,⟨@JdW,@JeS⟩⟩
theorem y_28:(((((type_of% @Jgf)∧(type_of% @JhJ))∧((type_of% @Jff)∧(type_of% @Jdu)))∧(((type_of% @Jex)∧(type_of% @JdJ))∧((type_of% @Jeu)∧((type_of% @Jeg)∧(type_of% @Jey)))))∧((((type_of% @Jej)∧(type_of% @JdF))∧((type_of% @JdK)∧(type_of% @Je2)))∧(((type_of% @JbM)∧(type_of% @JbR))∧((type_of% @JbB)∧((type_of% @Ji3)∧(type_of% @Jgl)))))):=⟨⟨⟨⟨@Jgf,@JhJ⟩,⟨@Jff,@Jdu⟩⟩,⟨⟨@Jex,@JdJ⟩,⟨@Jeu,⟨@Jeg,@Jey⟩⟩⟩⟩,⟨⟨⟨@Jej,@JdF⟩,⟨@JdK,@Je2⟩⟩,⟨⟨@JbM,@JbR⟩,⟨@JbB,⟨@Ji3,@Jgl⟩⟩⟩⟩⟩
theorem y_33:(((((type_of% @JgJ)∧(type_of% @Jev))∧((type_of% @Jik)∧(type_of% @Jfk)))∧(((type_of% @JdY)∧(type_of% @Jdy))∧((type_of% @JdQ)∧(type_of% @JdT))))∧((((type_of% @JdP)∧(type_of% @JdZ))∧((type_of% @Jed)∧(type_of% @JfJ)))∧(((type_of% @JbF)∧(type_of% @Jbz))∧((type_of% @JiZ)∧(type_of% @JgB))))):=⟨⟨⟨⟨@JgJ,@Jev⟩,⟨@Jik,@Jfk⟩⟩,⟨⟨@JdY,@Jdy⟩,⟨@JdQ,@JdT⟩⟩⟩,⟨⟨⟨@JdP,@JdZ⟩,⟨@Jed,@JfJ⟩⟩,⟨⟨@JbF,@Jbz⟩,⟨@JiZ,@JgB⟩⟩⟩⟩
theorem y_41:(((((type_of% @Jgt)∧(type_of% @Jei))∧((type_of% @Jho)∧((type_of% @Jel)∧(type_of% @Jem))))∧(((type_of% @Jd3)∧(type_of% @Jew))∧((type_of% @Jd1)∧((type_of% @Jd2)∧(type_of% @Jdz)))))∧((((type_of% @JdE)∧(type_of% @JdL))∧((type_of% @JdH)∧((type_of% @Jfl)∧(type_of% @JbA))))∧(((type_of% @JbC)∧(type_of% @JbZ))∧((type_of% @JbS)∧((type_of% @JiV)∧(type_of% @Jgq)))))):=⟨⟨⟨⟨@Jgt,@Jei⟩,⟨@Jho,⟨@Jel,@Jem⟩⟩⟩,⟨⟨@Jd3,@Jew⟩,⟨@Jd1,⟨@Jd2,@Jdz⟩⟩⟩⟩,⟨⟨⟨@JdE,@JdL⟩,⟨@JdH,⟨@Jfl,@JbA⟩⟩⟩,⟨⟨@JbC,@JbZ⟩,⟨@JbS,⟨@JiV,@Jgq⟩⟩⟩⟩⟩
theorem y_48:((((type_of% @Tryd.underlying48)∧(type_of% @JdS))∧((type_of% @JeO)∧(type_of% @Jgn)))∧(((type_of% @JhT)∧(type_of% @JfF))∧((type_of% @Jdw)∧((type_of% @Je1)∧(type_of% @Jep))))):=⟨⟨⟨@Tryd.underlying48,@JdS⟩,⟨@JeO,@Jgn⟩⟩,⟨⟨@JhT,@JfF⟩,⟨@Jdw,⟨@Je1,@Jep⟩⟩⟩⟩
theorem y_49:((((type_of% @Jet)∧(type_of% @Jfo))∧((type_of% @Jgx)∧((type_of% @JhD)∧(type_of% @Je9))))∧(((type_of% @Jes)∧(type_of% @JfI))∧((type_of% @JdC)∧((type_of% @Ji1)∧(type_of% @Jgi))))):=⟨⟨⟨@Jet,@Jfo⟩,⟨@Jgx,⟨@JhD,@Je9⟩⟩⟩,⟨⟨@Jes,@JfI⟩,⟨@JdC,⟨@Ji1,@Jgi⟩⟩⟩⟩
theorem y_81:((type_of% @JfQ)∧(type_of% @Jee)):=⟨@JfQ,@Jee⟩
theorem y_88:(type_of% @Tryd.underlying88):=@Tryd.underlying88
theorem JcH:Je Tryd.prog 7:=Jl Tryd.func7 (by kernel_rfl) (by kernel_rfl)
theorem JhB:Je Tryd.prog 9:=Jl Tryd.func9 (by kernel_rfl) (by kernel_rfl)
theorem Jdg:Je Tryd.prog 11:=Jl Tryd.func11 (by kernel_rfl) (by kernel_rfl)
theorem JgK:Je Tryd.prog 13:=Jl Tryd.func13 (by kernel_rfl) (by kernel_rfl)
theorem Jdt:Je Tryd.prog 15:=Jl Tryd.func15 (by kernel_rfl) (by kernel_rfl)
theorem Ji4:Je Tryd.prog 17:=Jl Tryd.func17 (by kernel_rfl) (by kernel_rfl)
theorem Jjs:Je Tryd.prog 20:=Jl Tryd.func20 (by kernel_rfl) (by kernel_rfl)
theorem Ji6:Je Tryd.prog 21:=Jl Tryd.func21 (by kernel_rfl) (by kernel_rfl)
theorem Jjh:Je Tryd.prog 25:=Jl Tryd.func25 (by kernel_rfl) (by kernel_rfl)
theorem Jjn:Je Tryd.prog 26:=Jl Tryd.func26 (by kernel_rfl) (by kernel_rfl)
theorem Ji9:Je Tryd.prog 27:=Jl Tryd.func27 (by kernel_rfl) (by kernel_rfl)
theorem Ji8:Je Tryd.prog 28:=Jl Tryd.func28 (by kernel_rfl) (by kernel_rfl)
theorem Ji5:Je Tryd.prog 29:=Jl Tryd.func29 (by kernel_rfl) (by kernel_rfl)
theorem Jjw:Je Tryd.prog 30:=Jl Tryd.func30 (by kernel_rfl) (by kernel_rfl)
theorem Jjb:Je Tryd.prog 31:=Jl Tryd.func31 (by kernel_rfl) (by kernel_rfl)
theorem JgE:Je Tryd.prog 32:=Jl Tryd.func32 (by kernel_rfl) (by kernel_rfl)
theorem Jjf:Je Tryd.prog 33:=Jl Tryd.func33 (by kernel_rfl) (by kernel_rfl)
theorem Jjr:Je Tryd.prog 38:=Jl Tryd.func38 (by kernel_rfl) (by kernel_rfl)
theorem Jjk:Je Tryd.prog 39:=Jl Tryd.func39 (by kernel_rfl) (by kernel_rfl)
theorem Jjl:Je Tryd.prog 40:=Jl Tryd.func40 (by kernel_rfl) (by kernel_rfl)
theorem Jje:Je Tryd.prog 48:=Jl Tryd.func48 (by kernel_rfl) (by kernel_rfl)
theorem Jgp:Je Tryd.prog 49:=Jl Tryd.func49 (by kernel_rfl) (by kernel_rfl)
theorem Jju:Je Tryd.prog 50:=Jl Tryd.func50 (by kernel_rfl) (by kernel_rfl)
theorem JjE:Je Tryd.prog 57:=Jl Tryd.func57 (by kernel_rfl) (by kernel_rfl)
theorem Jjq:Je Tryd.prog 62:=Jl Tryd.func62 (by kernel_rfl) (by kernel_rfl)
theorem Jgy(l:List UInt8):u8s l=List.map dU l:=rfl
theorem mixed:Tryd.prog.follows .mixedOrders=true:=Tryd.checked.mixed
theorem Jm{α:Type}(σ:Nat→α)(d:Nat)(x:α)(i:Nat):upd σ d x i=if i=d then x else σ i:=rfl
theorem Jbs{α:Type}(l:List α)(i:Nat):(l.drop i).take (l.length-i)=l.drop i:=List.take_of_length_le (by simp)
theorem Jeh{α β:Type}(f:α→β)(l:List α)(i:Nat):(l.map f).drop i=(l.drop i).map f:=List.map_drop.symm
theorem Jea{α β:Type}(f:α→β)(l:List α)(i:Nat):(l.map f).take i=(l.take i).map f:=List.map_take.symm
theorem Jo{S R:Type}{b:S→Option (S ⊕ R)}{n:Nat}{x:Option R}{o:S ⊕ R}{out:R}(h:inrO x=some o)(hF:Fin' b n o out):x=some out:=by
 obtain⟨r,h1,rfl⟩:=Jie h
 cases hF
 exact h1
theorem JZ{S R:Type}{b:S→Option (S ⊕ R)}{n:Nat}{s:S}{o:S ⊕ R}{out:R}(h:(some (.inl s):Option (S ⊕ R))=some o)(hF:Fin' b n o out):Fin' b n (.inl s) out:=by
 obtain rfl:=Option.some.inj h
 exact hF
end Go.Proofs.YtfkhlbhjhdpkoaaDoor
