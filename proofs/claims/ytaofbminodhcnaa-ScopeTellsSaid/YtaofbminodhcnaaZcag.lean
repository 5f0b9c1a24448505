/- Facts on types,and which functions can be called. -/
import Derived.Test.YtaofbminodhcnaaZcae
import Derived.Test.YtaofbminodhcnaaRows
set_option linter.unusedVariables false
set_option linter.unusedSimpArgs false
namespace Go.Proofs.Ytaofbminodhcnaa
open Go.RowKit
theorem Jpi:JQ Try.prog 3=true:=by kernel_rfl
theorem Jrx:Jo Try.prog 3=1:=by kernel_rfl
theorem Jui:tAgg Try.prog 3=false:=by kernel_rfl
theorem Jt9:tZok Try.prog 3=true:=by kernel_rfl
theorem tZ_3:tZ Try.prog 3=[.int .i64 0]:=by kernel_rfl
theorem Jvx:tCS Try.prog 3=[0]:=by kernel_rfl
theorem Jpz:Zc Try.prog 3=8:=by kernel_rfl
theorem Jpx:JQ Try.prog 4=true:=by kernel_rfl
theorem Jq4:Jo Try.prog 4=1:=by kernel_rfl
theorem Juc:tAgg Try.prog 4=false:=by kernel_rfl
theorem JvD:tCS Try.prog 4=[0]:=by kernel_rfl
theorem Jpe:JQ Try.prog 9=true:=by kernel_rfl
theorem Jr6:Jo Try.prog 9=1:=by kernel_rfl
theorem Jux:tAgg Try.prog 9=false:=by kernel_rfl
theorem Jun:tZok Try.prog 9=true:=by kernel_rfl
theorem tZ_9:tZ Try.prog 9=[str []]:=by kernel_rfl
theorem JvL:tCS Try.prog 9=[0]:=by kernel_rfl
theorem Jp3:Zc Try.prog 9=16:=by kernel_rfl
theorem Jpr:Jh3 Try.prog 20=true:=by kernel_rfl
theorem Jqk:Jft Try.prog 20=4:=by kernel_rfl
theorem JnN:JQ Try.prog 22=true:=by kernel_rfl
theorem JpN:Jo Try.prog 22=1:=by kernel_rfl
theorem JrC:tAgg Try.prog 22=false:=by kernel_rfl
theorem JtT:tCS Try.prog 22=[11]:=by kernel_rfl
theorem Jm4:JU Try.prog 22=true:=by kernel_rfl
theorem Jp8:Ju Try.prog 22=44:=by kernel_rfl
theorem JnM:JfF 22=false:=by kernel_rfl
theorem JoP:JcG 22=false:=by kernel_rfl
theorem JnV:JQ Try.prog 24=true:=by kernel_rfl
theorem JoL:Jo Try.prog 24=1:=by kernel_rfl
theorem JrK:tAgg Try.prog 24=false:=by kernel_rfl
theorem Jur:tCS Try.prog 24=[3]:=by kernel_rfl
theorem Jnh:JU Try.prog 24=true:=by kernel_rfl
theorem Jqc:Ju Try.prog 24=26:=by kernel_rfl
theorem Jml:JfF 24=false:=by kernel_rfl
theorem JpQ:JcG 24=true:=by kernel_rfl
theorem JmO:JQ Try.prog 26=true:=by kernel_rfl
theorem Jpo:Jo Try.prog 26=3:=by kernel_rfl
theorem Jq1:tAgg Try.prog 26=true:=by kernel_rfl
theorem JrY:tZok Try.prog 26=true:=by kernel_rfl
theorem JvE:tZ Try.prog 26=[.int .i64 0,.int .i64 0,.slice none 0 0]:=by kernel_rfl
theorem JtG:tCS Try.prog 26=[0,0,3]:=by kernel_rfl
theorem JmU:Zc Try.prog 26=40:=by kernel_rfl
theorem JnX:Jdr Try.prog 26=true:=by kernel_rfl
theorem Jiy:JI Try.prog 26 0=true:=by kernel_rfl
theorem Jn1:tOff Try.prog 26 0=0:=by kernel_rfl
theorem JmS:tFld Try.prog 26 0=3:=by kernel_rfl
theorem Ji4:JI Try.prog 26 1=true:=by kernel_rfl
theorem Jne:tOff Try.prog 26 1=1:=by kernel_rfl
theorem Jon:tFld Try.prog 26 1=3:=by kernel_rfl
theorem Jji:JI Try.prog 26 2=true:=by kernel_rfl
theorem Jme:tOff Try.prog 26 2=2:=by kernel_rfl
theorem JnS:tFld Try.prog 26 2=24:=by kernel_rfl
theorem JnA:JQ Try.prog 27=true:=by kernel_rfl
theorem Jpn:Jo Try.prog 27=1:=by kernel_rfl
theorem Jrr:tAgg Try.prog 27=false:=by kernel_rfl
theorem Jt3:tCS Try.prog 27=[0]:=by kernel_rfl
theorem JnJ:JQ Try.prog 29=true:=by kernel_rfl
theorem Jo5:Jo Try.prog 29=3:=by kernel_rfl
theorem JqS:tAgg Try.prog 29=true:=by kernel_rfl
theorem Jq0:tZok Try.prog 29=true:=by kernel_rfl
theorem Jvw:tZ Try.prog 29=[.int .i64 0,.int .i64 0,.int .i64 0]:=by kernel_rfl
theorem JsY:tCS Try.prog 29=[0,0,0]:=by kernel_rfl
theorem Jnv:Jdr Try.prog 29=true:=by kernel_rfl
theorem Jph:JjA Try.prog 29=true:=by kernel_rfl
theorem JnR:JiG Try.prog 29=[1,1,1]:=by kernel_rfl
theorem JiI:JI Try.prog 29 0=true:=by kernel_rfl
theorem Jmu:tOff Try.prog 29 0=0:=by kernel_rfl
theorem JmZ:tFld Try.prog 29 0=27:=by kernel_rfl
theorem JiZ:JI Try.prog 29 1=true:=by kernel_rfl
theorem JnB:tOff Try.prog 29 1=1:=by kernel_rfl
theorem Jnq:tFld Try.prog 29 1=3:=by kernel_rfl
theorem JiQ:JI Try.prog 29 2=true:=by kernel_rfl
theorem Jn4:tOff Try.prog 29 2=2:=by kernel_rfl
theorem Jmt:tFld Try.prog 29 2=3:=by kernel_rfl
theorem Joe:JQ Try.prog 32=true:=by kernel_rfl
theorem JoR:Jo Try.prog 32=1:=by kernel_rfl
theorem Jrd:tAgg Try.prog 32=false:=by kernel_rfl
theorem JrE:tZok Try.prog 32=true:=by kernel_rfl
theorem JvO:tZ Try.prog 32=[.slice none 0 0]:=by kernel_rfl
theorem Jtf:tCS Try.prog 32=[2]:=by kernel_rfl
theorem Joo:JU Try.prog 32=true:=by kernel_rfl
theorem Jpp:Ju Try.prog 32=40:=by kernel_rfl
theorem JmB:JfF 32=false:=by kernel_rfl
theorem Jp5:JcG 32=true:=by kernel_rfl
theorem Jmc:JQ Try.prog 40=true:=by kernel_rfl
theorem JoX:Jo Try.prog 40=2:=by kernel_rfl
theorem JqP:tAgg Try.prog 40=true:=by kernel_rfl
theorem Jq2:tZok Try.prog 40=true:=by kernel_rfl
theorem JvA:tZ Try.prog 40=[.int .i64 0,.int .i64 0]:=by kernel_rfl
theorem JtP:tCS Try.prog 40=[0,0]:=by kernel_rfl
theorem Jm9:Zc Try.prog 40=16:=by kernel_rfl
theorem JmX:Jdr Try.prog 40=true:=by kernel_rfl
theorem Jpy:JjA Try.prog 40=true:=by kernel_rfl
theorem Jmg:JiG Try.prog 40=[1,1]:=by kernel_rfl
theorem JiM:JI Try.prog 40 0=true:=by kernel_rfl
theorem Jms:tOff Try.prog 40 0=0:=by kernel_rfl
theorem JnD:tFld Try.prog 40 0=3:=by kernel_rfl
theorem JiS:JI Try.prog 40 1=true:=by kernel_rfl
theorem JmG:tOff Try.prog 40 1=1:=by kernel_rfl
theorem Job:tFld Try.prog 40 1=3:=by kernel_rfl
theorem Jl7:JQ Try.prog 41=true:=by kernel_rfl
theorem Jo9:Jo Try.prog 41=1:=by kernel_rfl
theorem Jra:tAgg Try.prog 41=false:=by kernel_rfl
theorem JrP:tZok Try.prog 41=true:=by kernel_rfl
theorem JvC:tZ Try.prog 41=[.slice none 0 0]:=by kernel_rfl
theorem JtO:tCS Try.prog 41=[1]:=by kernel_rfl
theorem Jm2:Zc Try.prog 41=24:=by kernel_rfl
theorem Jm6:JU Try.prog 41=true:=by kernel_rfl
theorem Jps:Ju Try.prog 41=9:=by kernel_rfl
theorem Jp2:Jo Try.prog 42=1:=by kernel_rfl
theorem Jup:tCS Try.prog 42=[3]:=by kernel_rfl
theorem Jnw:JQ Try.prog 44=true:=by kernel_rfl
theorem Jkp:Jo Try.prog 44=11:=by kernel_rfl
theorem JrZ:tAgg Try.prog 44=true:=by kernel_rfl
theorem JqV:tZok Try.prog 44=true:=by kernel_rfl
theorem Jvt:tZ Try.prog 44=[.int .i64 0,str [],.bool false,.bool false,.int .i64 0,.int .i64 0,.int .i64 0,.int .i64 0,.slice none 0 0,.slice none 0 0,.int .i64 0]:=by kernel_rfl
theorem JuE:tCS Try.prog 44=[0,0,0,0,0,0,0,0,1,3,0]:=by kernel_rfl
theorem Jl8:Zc Try.prog 44=120:=by kernel_rfl
theorem Jn7:Jdr Try.prog 44=true:=by kernel_rfl
theorem Jjr:JI Try.prog 44 0=true:=by kernel_rfl
theorem Jm8:tOff Try.prog 44 0=0:=by kernel_rfl
theorem JmH:tFld Try.prog 44 0=3:=by kernel_rfl
theorem JeE:JI Try.prog 44 1=true:=by kernel_rfl
theorem JiL:tOff Try.prog 44 1=1:=by kernel_rfl
theorem JnZ:tFld Try.prog 44 1=9:=by kernel_rfl
theorem JiX:JI Try.prog 44 2=true:=by kernel_rfl
theorem JmM:tOff Try.prog 44 2=2:=by kernel_rfl
theorem Jm3:tFld Try.prog 44 2=4:=by kernel_rfl
theorem Jjt:JI Try.prog 44 3=true:=by kernel_rfl
theorem JmI:tOff Try.prog 44 3=3:=by kernel_rfl
theorem JmT:tFld Try.prog 44 3=4:=by kernel_rfl
theorem Jgo:JI Try.prog 44 4=true:=by kernel_rfl
theorem Jix:tOff Try.prog 44 4=4:=by kernel_rfl
theorem Jmy:tFld Try.prog 44 4=3:=by kernel_rfl
theorem JgK:JI Try.prog 44 5=true:=by kernel_rfl
theorem Jjl:tOff Try.prog 44 5=5:=by kernel_rfl
theorem Jm0:tFld Try.prog 44 5=3:=by kernel_rfl
theorem Jit:JI Try.prog 44 6=true:=by kernel_rfl
theorem JnP:tOff Try.prog 44 6=6:=by kernel_rfl
theorem JnG:tFld Try.prog 44 6=3:=by kernel_rfl
theorem Jjp:JI Try.prog 44 7=true:=by kernel_rfl
theorem Jmq:tOff Try.prog 44 7=7:=by kernel_rfl
theorem Jog:tFld Try.prog 44 7=3:=by kernel_rfl
theorem JiY:JI Try.prog 44 8=true:=by kernel_rfl
theorem JnC:tOff Try.prog 44 8=8:=by kernel_rfl
theorem Jn0:tFld Try.prog 44 8=41:=by kernel_rfl
theorem Jjg:JI Try.prog 44 9=true:=by kernel_rfl
theorem JnY:tOff Try.prog 44 9=9:=by kernel_rfl
theorem JnF:tFld Try.prog 44 9=42:=by kernel_rfl
theorem Jie:JI Try.prog 44 10=true:=by kernel_rfl
theorem JkN:tOff Try.prog 44 10=10:=by kernel_rfl
theorem Jls:tFld Try.prog 44 10=3:=by kernel_rfl
theorem JrL:tZok Try.prog 50=true:=by kernel_rfl
theorem Jvr:tZ Try.prog 50=[.slice none 0 0,.int .i64 0,.int .i64 0,.int .i64 0,.int .i64 0]:=by kernel_rfl
theorem Juf:tCS Try.prog 50=[11,0,0,0,0]:=by kernel_rfl
theorem Jnu:Jdr Try.prog 50=true:=by kernel_rfl
theorem JiD:JI Try.prog 50 0=true:=by kernel_rfl
theorem Jng:tOff Try.prog 50 0=0:=by kernel_rfl
theorem Jnd:tFld Try.prog 50 0=22:=by kernel_rfl
theorem JiE:JI Try.prog 50 1=true:=by kernel_rfl
theorem JmC:tOff Try.prog 50 1=1:=by kernel_rfl
theorem Joj:tFld Try.prog 50 1=29:=by kernel_rfl
theorem JiR:JI Try.prog 50 2=true:=by kernel_rfl
theorem JmL:tOff Try.prog 50 2=4:=by kernel_rfl
theorem JmV:tFld Try.prog 50 2=3:=by kernel_rfl
theorem Jny:JQ Try.prog 56=true:=by kernel_rfl
theorem Jo1:Jo Try.prog 56=3:=by kernel_rfl
theorem JrD:tAgg Try.prog 56=true:=by kernel_rfl
theorem Jr4:tZok Try.prog 56=true:=by kernel_rfl
theorem JvM:tZ Try.prog 56=[.int .i64 0,.int .i64 0,.int .i64 0]:=by kernel_rfl
theorem Juq:tCS Try.prog 56=[0,0,0]:=by kernel_rfl
theorem Jg9:Jdq Try.prog 56=true:=by kernel_rfl
theorem Jmm:Jdr Try.prog 56=true:=by kernel_rfl
theorem JiC:JI Try.prog 56 0=true:=by kernel_rfl
theorem Jni:tOff Try.prog 56 0=0:=by kernel_rfl
theorem JnQ:tFld Try.prog 56 0=29:=by kernel_rfl
theorem JmW:JQ Try.prog 57=true:=by kernel_rfl
theorem JpV:Jo Try.prog 57=1:=by kernel_rfl
theorem Jr0:tAgg Try.prog 57=false:=by kernel_rfl
theorem Jtd:tCS Try.prog 57=[0]:=by kernel_rfl
theorem Ji1:JQ Try.prog 58=true:=by kernel_rfl
theorem Jh1:Jo Try.prog 58=1:=by kernel_rfl
theorem Jrz:tAgg Try.prog 58=false:=by kernel_rfl
theorem Jri:tZok Try.prog 58=true:=by kernel_rfl
theorem JvF:tZ Try.prog 58=[.map none]:=by kernel_rfl
theorem Jta:tCS Try.prog 58=[0]:=by kernel_rfl
theorem Jmp:Zc Try.prog 58=8:=by kernel_rfl
theorem JcD:JQ Try.prog 59=true:=by kernel_rfl
theorem JhX:Jo Try.prog 59=1:=by kernel_rfl
theorem Jgd:tAgg Try.prog 59=false:=by kernel_rfl
theorem Jt4:tCS Try.prog 59=[1]:=by kernel_rfl
theorem JgX:JU Try.prog 59=true:=by kernel_rfl
theorem Jqf:Ju Try.prog 59=58:=by kernel_rfl
theorem Jl9:JfF 59=false:=by kernel_rfl
theorem JoV:JcG 59=false:=by kernel_rfl
theorem JrH:tZok Try.prog 61=true:=by kernel_rfl
theorem Jvu:tZ Try.prog 61=[.slice none 0 0,.slice none 0 0,.slice none 0 0]:=by kernel_rfl
theorem JuD:tCS Try.prog 61=[11,1,2]:=by kernel_rfl
theorem Jmf:Jdr Try.prog 61=true:=by kernel_rfl
theorem Jje:JI Try.prog 61 0=true:=by kernel_rfl
theorem Jmh:tOff Try.prog 61 0=0:=by kernel_rfl
theorem Jok:tFld Try.prog 61 0=22:=by kernel_rfl
theorem Jao:JI Try.prog 61 1=true:=by kernel_rfl
theorem JnI:tOff Try.prog 61 1=1:=by kernel_rfl
theorem Jmx:tFld Try.prog 61 1=59:=by kernel_rfl
theorem Jjh:JI Try.prog 61 2=true:=by kernel_rfl
theorem Jn8:tOff Try.prog 61 2=2:=by kernel_rfl
theorem Joa:tFld Try.prog 61 2=32:=by kernel_rfl
theorem Jmn:JQ Try.prog 63=true:=by kernel_rfl
theorem JpF:Jo Try.prog 63=1:=by kernel_rfl
theorem JrW:tAgg Try.prog 63=false:=by kernel_rfl
theorem JuB:tCS Try.prog 63=[0]:=by kernel_rfl
theorem Jmw:JQ Try.prog 68=true:=by kernel_rfl
theorem JpD:Jo Try.prog 68=1:=by kernel_rfl
theorem Jrg:tAgg Try.prog 68=false:=by kernel_rfl
theorem JtI:tCS Try.prog 68=[0]:=by kernel_rfl
theorem Jq5:tZok Try.prog 70=true:=by kernel_rfl
theorem Jvv:tZ Try.prog 70=[.slice none 0 0,.map none,.int .i64 0,.int .i64 0,.int .i64 0]:=by kernel_rfl
theorem Js4:tCS Try.prog 70=[11,0,0,0,0]:=by kernel_rfl
theorem Jmo:Jdr Try.prog 70=true:=by kernel_rfl
theorem JiP:JI Try.prog 70 0=true:=by kernel_rfl
theorem Jnl:tOff Try.prog 70 0=0:=by kernel_rfl
theorem Joc:tFld Try.prog 70 0=22:=by kernel_rfl
theorem Jjc:JI Try.prog 70 1=true:=by kernel_rfl
theorem Jnr:tOff Try.prog 70 1=1:=by kernel_rfl
theorem Jl6:tFld Try.prog 70 1=68:=by kernel_rfl
theorem Jiw:JI Try.prog 70 2=true:=by kernel_rfl
theorem Jnx:tOff Try.prog 70 2=2:=by kernel_rfl
theorem Jmb:tFld Try.prog 70 2=29:=by kernel_rfl
theorem Joh:JQ Try.prog 72=true:=by kernel_rfl
theorem JoM:Jo Try.prog 72=2:=by kernel_rfl
theorem JrR:tAgg Try.prog 72=true:=by kernel_rfl
theorem Jr1:tZok Try.prog 72=true:=by kernel_rfl
theorem JvG:tZ Try.prog 72=[.map none,.map none]:=by kernel_rfl
theorem Jtx:tCS Try.prog 72=[0,0]:=by kernel_rfl
theorem Jod:Jdr Try.prog 72=true:=by kernel_rfl
theorem JiW:JI Try.prog 72 0=true:=by kernel_rfl
theorem JmJ:tOff Try.prog 72 0=0:=by kernel_rfl
theorem Jmk:tFld Try.prog 72 0=58:=by kernel_rfl
theorem JiO:JI Try.prog 72 1=true:=by kernel_rfl
theorem Jnc:tOff Try.prog 72 1=1:=by kernel_rfl
theorem Jnk:tFld Try.prog 72 1=58:=by kernel_rfl
theorem JmF:JQ Try.prog 78=true:=by kernel_rfl
theorem JoY:Jo Try.prog 78=1:=by kernel_rfl
theorem Jq8:tAgg Try.prog 78=false:=by kernel_rfl
theorem Jtk:tCS Try.prog 78=[1]:=by kernel_rfl
theorem JmK:JU Try.prog 78=true:=by kernel_rfl
theorem Jpg:Ju Try.prog 78=3:=by kernel_rfl
theorem Jn6:JfF 78=false:=by kernel_rfl
theorem Jql:JcG 78=false:=by kernel_rfl
theorem Jmd:JQ Try.prog 80=true:=by kernel_rfl
theorem Jpk:Jo Try.prog 80=2:=by kernel_rfl
theorem Jrw:tAgg Try.prog 80=true:=by kernel_rfl
theorem Jr3:tZok Try.prog 80=true:=by kernel_rfl
theorem Jvy:tZ Try.prog 80=[str [],.slice none 0 0]:=by kernel_rfl
theorem Js9:tCS Try.prog 80=[0,1]:=by kernel_rfl
theorem Jjk:JI Try.prog 80 0=true:=by kernel_rfl
theorem Jmj:tOff Try.prog 80 0=0:=by kernel_rfl
theorem JmD:tFld Try.prog 80 0=9:=by kernel_rfl
theorem Ji7:JI Try.prog 80 1=true:=by kernel_rfl
theorem Jna:tOff Try.prog 80 1=1:=by kernel_rfl
theorem Jnn:tFld Try.prog 80 1=78:=by kernel_rfl
theorem Jln:JU Try.prog 129=true:=by kernel_rfl
theorem Jmr:Ju Try.prog 129=41:=by kernel_rfl
theorem y_3:((((type_of% @Try.underlying3)∧(type_of% @Jui))∧((type_of% @Jpz)∧(type_of% @Jvx)))∧(((type_of% @Jpi)∧(type_of% @Jrx))∧((type_of% @tZ_3)∧(type_of% @Jt9)))):=⟨⟨⟨@Try.underlying3,@Jui⟩,⟨@Jpz,@Jvx⟩⟩,⟨⟨@Jpi,@Jrx⟩,⟨@tZ_3,@Jt9⟩⟩⟩
theorem y_4:(((type_of% @Try.underlying4)∧(type_of% @Juc))∧((type_of% @JvD)∧((type_of% @Jpx)∧(type_of% @Jq4)))):=⟨⟨@Try.underlying4,@Juc⟩,⟨@JvD,⟨@Jpx,@Jq4⟩⟩⟩
theorem y_9:((((type_of% @Try.underlying9)∧(type_of% @Jux))∧((type_of% @Jp3)∧(type_of% @JvL)))∧(((type_of% @Jpe)∧(type_of% @Jr6))∧((type_of% @tZ_9)∧(type_of% @Jun)))):=⟨⟨⟨@Try.underlying9,@Jux⟩,⟨@Jp3,@JvL⟩⟩,⟨⟨@Jpe,@Jr6⟩,⟨@tZ_9,@Jun⟩⟩⟩
theorem y_20:((type_of% @Jpr)∧(type_of% @Jqk)):=⟨@Jpr,@Jqk⟩
theorem y_22:((((type_of% @JnM)∧(type_of% @JoP))∧((type_of% @JrC)∧(type_of% @JtT)))∧(((type_of% @Jp8)∧(type_of% @JnN))∧((type_of% @JpN)∧(type_of% @Jm4)))):=⟨⟨⟨@JnM,@JoP⟩,⟨@JrC,@JtT⟩⟩,⟨⟨@Jp8,@JnN⟩,⟨@JpN,@Jm4⟩⟩⟩
theorem y_24:((((type_of% @Jml)∧(type_of% @JpQ))∧((type_of% @JrK)∧(type_of% @Jur)))∧(((type_of% @Jqc)∧(type_of% @JnV))∧((type_of% @JoL)∧(type_of% @Jnh)))):=⟨⟨⟨@Jml,@JpQ⟩,⟨@JrK,@Jur⟩⟩,⟨⟨@Jqc,@JnV⟩,⟨@JoL,@Jnh⟩⟩⟩
theorem y_26:(((((type_of% @Jq1)∧(type_of% @JmU))∧((type_of% @JtG)∧(type_of% @JmS)))∧(((type_of% @Jon)∧(type_of% @JnS))∧((type_of% @JmO)∧(type_of% @Jn1))))∧((((type_of% @Jne)∧(type_of% @Jme))∧((type_of% @JnX)∧(type_of% @Jpo)))∧(((type_of% @Jiy)∧(type_of% @Ji4))∧((type_of% @Jji)∧((type_of% @JvE)∧(type_of% @JrY)))))):=⟨⟨⟨⟨@Jq1,@JmU⟩,⟨@JtG,@JmS⟩⟩,⟨⟨@Jon,@JnS⟩,⟨@JmO,@Jn1⟩⟩⟩,⟨⟨⟨@Jne,@Jme⟩,⟨@JnX,@Jpo⟩⟩,⟨⟨@Jiy,@Ji4⟩,⟨@Jji,⟨@JvE,@JrY⟩⟩⟩⟩⟩
theorem y_27:(((type_of% @Jrr)∧(type_of% @Jt3))∧((type_of% @JnA)∧(type_of% @Jpn))):=⟨⟨@Jrr,@Jt3⟩,⟨@JnA,@Jpn⟩⟩
theorem y_29:(((((type_of% @JqS)∧(type_of% @JsY))∧((type_of% @Jph)∧(type_of% @JmZ)))∧(((type_of% @Jnq)∧(type_of% @Jmt))∧((type_of% @JnR)∧((type_of% @JnJ)∧(type_of% @Jmu)))))∧((((type_of% @JnB)∧(type_of% @Jn4))∧((type_of% @Jnv)∧(type_of% @Jo5)))∧(((type_of% @JiI)∧(type_of% @JiZ))∧((type_of% @JiQ)∧((type_of% @Jvw)∧(type_of% @Jq0)))))):=⟨⟨⟨⟨@JqS,@JsY⟩,⟨@Jph,@JmZ⟩⟩,⟨⟨@Jnq,@Jmt⟩,⟨@JnR,⟨@JnJ,@Jmu⟩⟩⟩⟩,⟨⟨⟨@JnB,@Jn4⟩,⟨@Jnv,@Jo5⟩⟩,⟨⟨@JiI,@JiZ⟩,⟨@JiQ,⟨@Jvw,@Jq0⟩⟩⟩⟩⟩
theorem y_32:((((type_of% @JmB)∧(type_of% @Jp5))∧((type_of% @Jrd)∧((type_of% @Jtf)∧(type_of% @Jpp))))∧(((type_of% @Joe)∧(type_of% @JoR))∧((type_of% @Joo)∧((type_of% @JvO)∧(type_of% @JrE))))):=⟨⟨⟨@JmB,@Jp5⟩,⟨@Jrd,⟨@Jtf,@Jpp⟩⟩⟩,⟨⟨@Joe,@JoR⟩,⟨@Joo,⟨@JvO,@JrE⟩⟩⟩⟩
theorem y_40:(((((type_of% @JqP)∧(type_of% @Jm9))∧((type_of% @JtP)∧(type_of% @Jpy)))∧(((type_of% @JnD)∧(type_of% @Job))∧((type_of% @Jmg)∧(type_of% @Jmc))))∧((((type_of% @Jms)∧(type_of% @JmG))∧((type_of% @JmX)∧(type_of% @JoX)))∧(((type_of% @JiM)∧(type_of% @JiS))∧((type_of% @JvA)∧(type_of% @Jq2))))):=⟨⟨⟨⟨@JqP,@Jm9⟩,⟨@JtP,@Jpy⟩⟩,⟨⟨@JnD,@Job⟩,⟨@Jmg,@Jmc⟩⟩⟩,⟨⟨⟨@Jms,@JmG⟩,⟨@JmX,@JoX⟩⟩,⟨⟨@JiM,@JiS⟩,⟨@JvA,@Jq2⟩⟩⟩⟩
theorem y_41:((((type_of% @Jra)∧(type_of% @Jm2))∧((type_of% @JtO)∧(type_of% @Jps)))∧(((type_of% @Jl7)∧(type_of% @Jo9))∧((type_of% @Jm6)∧((type_of% @JvC)∧(type_of% @JrP))))):=⟨⟨⟨@Jra,@Jm2⟩,⟨@JtO,@Jps⟩⟩,⟨⟨@Jl7,@Jo9⟩,⟨@Jm6,⟨@JvC,@JrP⟩⟩⟩⟩
theorem y_42:((type_of% @Jup)∧(type_of% @Jp2)):=⟨@Jup,@Jp2⟩
theorem y_44:((((((type_of% @JrZ)∧(type_of% @Jl8))∧((type_of% @JuE)∧((type_of% @JmH)∧(type_of% @JnZ))))∧(((type_of% @Jls)∧(type_of% @Jm3))∧((type_of% @JmT)∧((type_of% @Jmy)∧(type_of% @Jm0)))))∧((((type_of% @JnG)∧(type_of% @Jog))∧((type_of% @Jn0)∧((type_of% @JnF)∧(type_of% @Jnw))))∧(((type_of% @Jm8)∧(type_of% @JiL))∧((type_of% @JkN)∧((type_of% @JmM)∧(type_of% @JmI))))))∧(((((type_of% @Jix)∧(type_of% @Jjl))∧((type_of% @JnP)∧((type_of% @Jmq)∧(type_of% @JnC))))∧(((type_of% @JnY)∧(type_of% @Jn7))∧((type_of% @Jkp)∧((type_of% @Jjr)∧(type_of% @JeE)))))∧((((type_of% @Jie)∧(type_of% @JiX))∧((type_of% @Jjt)∧((type_of% @Jgo)∧(type_of% @JgK))))∧(((type_of% @Jit)∧((type_of% @Jjp)∧(type_of% @JiY)))∧((type_of% @Jjg)∧((type_of% @Jvt)∧(type_of% @JqV))))))):=⟨⟨⟨⟨⟨@JrZ,@Jl8⟩,⟨@JuE,⟨@JmH,@JnZ⟩⟩⟩,⟨⟨@Jls,@Jm3⟩,⟨@JmT,⟨@Jmy,@Jm0⟩⟩⟩⟩,⟨⟨⟨@JnG,@Jog⟩,⟨@Jn0,⟨@JnF,@Jnw⟩⟩⟩,⟨⟨@Jm8,@JiL⟩,⟨@JkN,⟨@JmM,@JmI⟩⟩⟩⟩⟩,⟨⟨⟨⟨@Jix,@Jjl⟩,⟨@JnP,⟨@Jmq,@JnC⟩⟩⟩,⟨⟨@JnY,@Jn7⟩,⟨@Jkp,⟨@Jjr,@JeE⟩⟩⟩⟩,⟨⟨⟨@Jie,@JiX⟩,⟨@Jjt,⟨@Jgo,@JgK⟩⟩⟩,⟨⟨@Jit,⟨@Jjp,@JiY⟩⟩,⟨@Jjg,⟨@Jvt,@JqV⟩⟩⟩⟩⟩⟩
theorem y_50:((((type_of% @Juf)∧((type_of% @Jnd)∧(type_of% @Joj)))∧((type_of% @JmV)∧((type_of% @Jng)∧(type_of% @JmC))))∧(((type_of% @JmL)∧((type_of% @Jnu)∧(type_of% @JiD)))∧(((type_of% @JiE)∧(type_of% @JiR))∧((type_of% @Jvr)∧(type_of% @JrL))))):=⟨⟨⟨@Juf,⟨@Jnd,@Joj⟩⟩,⟨@JmV,⟨@Jng,@JmC⟩⟩⟩,⟨⟨@JmL,⟨@Jnu,@JiD⟩⟩,⟨⟨@JiE,@JiR⟩,⟨@Jvr,@JrL⟩⟩⟩⟩
theorem y_56:((((type_of% @JrD)∧(type_of% @Juq))∧((type_of% @JnQ)∧((type_of% @Jny)∧(type_of% @Jg9))))∧(((type_of% @Jni)∧((type_of% @Jmm)∧(type_of% @Jo1)))∧((type_of% @JiC)∧((type_of% @JvM)∧(type_of% @Jr4))))):=⟨⟨⟨@JrD,@Juq⟩,⟨@JnQ,⟨@Jny,@Jg9⟩⟩⟩,⟨⟨@Jni,⟨@Jmm,@Jo1⟩⟩,⟨@JiC,⟨@JvM,@Jr4⟩⟩⟩⟩
theorem y_57:(((type_of% @Jr0)∧(type_of% @Jtd))∧((type_of% @JmW)∧(type_of% @JpV))):=⟨⟨@Jr0,@Jtd⟩,⟨@JmW,@JpV⟩⟩
theorem y_58:(((type_of% @Jrz)∧((type_of% @Jmp)∧(type_of% @Jta)))∧(((type_of% @Ji1)∧(type_of% @Jh1))∧((type_of% @JvF)∧(type_of% @Jri)))):=⟨⟨@Jrz,⟨@Jmp,@Jta⟩⟩,⟨⟨@Ji1,@Jh1⟩,⟨@JvF,@Jri⟩⟩⟩
theorem y_59:((((type_of% @Jl9)∧(type_of% @JoV))∧((type_of% @Jgd)∧(type_of% @Jt4)))∧(((type_of% @Jqf)∧(type_of% @JcD))∧((type_of% @JhX)∧(type_of% @JgX)))):=⟨⟨⟨@Jl9,@JoV⟩,⟨@Jgd,@Jt4⟩⟩,⟨⟨@Jqf,@JcD⟩,⟨@JhX,@JgX⟩⟩⟩
theorem y_61:((((type_of% @JuD)∧((type_of% @Jok)∧(type_of% @Jmx)))∧((type_of% @Joa)∧((type_of% @Jmh)∧(type_of% @JnI))))∧(((type_of% @Jn8)∧((type_of% @Jmf)∧(type_of% @Jje)))∧(((type_of% @Jao)∧(type_of% @Jjh))∧((type_of% @Jvu)∧(type_of% @JrH))))):=⟨⟨⟨@JuD,⟨@Jok,@Jmx⟩⟩,⟨@Joa,⟨@Jmh,@JnI⟩⟩⟩,⟨⟨@Jn8,⟨@Jmf,@Jje⟩⟩,⟨⟨@Jao,@Jjh⟩,⟨@Jvu,@JrH⟩⟩⟩⟩
theorem y_63:(((type_of% @JrW)∧(type_of% @JuB))∧((type_of% @Jmn)∧(type_of% @JpF))):=⟨⟨@JrW,@JuB⟩,⟨@Jmn,@JpF⟩⟩
theorem y_68:(((type_of% @Jrg)∧(type_of% @JtI))∧((type_of% @Jmw)∧(type_of% @JpD))):=⟨⟨@Jrg,@JtI⟩,⟨@Jmw,@JpD⟩⟩
theorem y_70:((((type_of% @Js4)∧((type_of% @Joc)∧(type_of% @Jl6)))∧((type_of% @Jmb)∧((type_of% @Jnl)∧(type_of% @Jnr))))∧(((type_of% @Jnx)∧((type_of% @Jmo)∧(type_of% @JiP)))∧(((type_of% @Jjc)∧(type_of% @Jiw))∧((type_of% @Jvv)∧(type_of% @Jq5))))):=⟨⟨⟨@Js4,⟨@Joc,@Jl6⟩⟩,⟨@Jmb,⟨@Jnl,@Jnr⟩⟩⟩,⟨⟨@Jnx,⟨@Jmo,@JiP⟩⟩,⟨⟨@Jjc,@Jiw⟩,⟨@Jvv,@Jq5⟩⟩⟩⟩
theorem y_72:((((type_of% @JrR)∧((type_of% @Jtx)∧(type_of% @Jmk)))∧((type_of% @Jnk)∧((type_of% @Joh)∧(type_of% @JmJ))))∧(((type_of% @Jnc)∧((type_of% @Jod)∧(type_of% @JoM)))∧(((type_of% @JiW)∧(type_of% @JiO))∧((type_of% @JvG)∧(type_of% @Jr1))))):=⟨⟨⟨@JrR,⟨@Jtx,@Jmk⟩⟩,⟨@Jnk,⟨@Joh,@JmJ⟩⟩⟩,⟨⟨@Jnc,⟨@Jod,@JoM⟩⟩,⟨⟨@JiW,@JiO⟩,⟨@JvG,@Jr1⟩⟩⟩⟩
theorem y_78:((((type_of% @Jn6)∧(type_of% @Jql))∧((type_of% @Jq8)∧(type_of% @Jtk)))∧(((type_of% @Jpg)∧(type_of% @JmF))∧((type_of% @JoY)∧(type_of% @JmK)))):=⟨⟨⟨@Jn6,@Jql⟩,⟨@Jq8,@Jtk⟩⟩,⟨⟨@Jpg,@JmF⟩,⟨@JoY,@JmK⟩⟩⟩
theorem y_80:((((type_of% @Jrw)∧((type_of% @Js9)∧(type_of% @JmD)))∧((type_of% @Jnn)∧((type_of% @Jmd)∧(type_of% @Jmj))))∧(((type_of% @Jna)∧((type_of% @Jpk)∧(type_of% @Jjk)))∧((type_of% @Ji7)∧((type_of% @Jvy)∧(type_of% @Jr3))))):=⟨⟨⟨@Jrw,⟨@Js9,@JmD⟩⟩,⟨@Jnn,⟨@Jmd,@Jmj⟩⟩⟩,⟨⟨@Jna,⟨@Jpk,@Jjk⟩⟩,⟨@Ji7,⟨@Jvy,@Jr3⟩⟩⟩⟩
theorem y_96:(type_of% @Try.underlying96):=@Try.underlying96
theorem Jvz:((type_of% @Jmr)∧(type_of% @Jln)):=⟨@Jmr,@Jln⟩
theorem JxJ:Jh Try.prog 6:=Jl Try.func6 (by kernel_rfl) (by kernel_rfl)
theorem JxP:Jh Try.prog 7:=Jl Try.func7 (by kernel_rfl) (by kernel_rfl)
theorem JxZ:Jh Try.prog 8:=Jl Try.func8 (by kernel_rfl) (by kernel_rfl)
theorem Jxv:Jh Try.prog 9:=Jl Try.func9 (by kernel_rfl) (by kernel_rfl)
theorem Jwb:Jh Try.prog 10:=Jl Try.func10 (by kernel_rfl) (by kernel_rfl)
theorem Jwv:Jh Try.prog 11:=Jl Try.func11 (by kernel_rfl) (by kernel_rfl)
theorem JwZ:Jh Try.prog 12:=Jl Try.func12 (by kernel_rfl) (by kernel_rfl)
theorem JwQ:Jh Try.prog 14:=Jl Try.func14 (by kernel_rfl) (by kernel_rfl)
theorem JwH:Jh Try.prog 15:=Jl Try.func15 (by kernel_rfl) (by kernel_rfl)
theorem JwS:Jh Try.prog 16:=Jl Try.func16 (by kernel_rfl) (by kernel_rfl)
theorem JwJ:Jh Try.prog 17:=Jl Try.func17 (by kernel_rfl) (by kernel_rfl)
theorem Jr2:Jh Try.prog 18:=Jl Try.func18 (by kernel_rfl) (by kernel_rfl)
theorem JqN:Jh Try.prog 19:=Jl Try.func19 (by kernel_rfl) (by kernel_rfl)
theorem Jxq:Jh Try.prog 20:=Jl Try.func20 (by kernel_rfl) (by kernel_rfl)
theorem Jjy:Jh Try.prog 21:=Jl Try.func21 (by kernel_rfl) (by kernel_rfl)
theorem Jq3:Jh Try.prog 22:=Jl Try.func22 (by kernel_rfl) (by kernel_rfl)
theorem JrO:Jh Try.prog 23:=Jl Try.func23 (by kernel_rfl) (by kernel_rfl)
theorem Jv9:Jh Try.prog 24:=Jl Try.func24 (by kernel_rfl) (by kernel_rfl)
theorem Jwu:Jh Try.prog 25:=Jl Try.func25 (by kernel_rfl) (by kernel_rfl)
theorem JjJ:Jh Try.prog 26:=Jl Try.func26 (by kernel_rfl) (by kernel_rfl)
theorem Jxa:Jh Try.prog 27:=Jl Try.func27 (by kernel_rfl) (by kernel_rfl)
theorem JvX:Jh Try.prog 28:=Jl Try.func28 (by kernel_rfl) (by kernel_rfl)
theorem Jw1:Jh Try.prog 29:=Jl Try.func29 (by kernel_rfl) (by kernel_rfl)
theorem Jwl:Jh Try.prog 30:=Jl Try.func30 (by kernel_rfl) (by kernel_rfl)
theorem Jxf:Jh Try.prog 31:=Jl Try.func31 (by kernel_rfl) (by kernel_rfl)
theorem Jxn:Jh Try.prog 32:=Jl Try.func32 (by kernel_rfl) (by kernel_rfl)
theorem JwO:Jh Try.prog 33:=Jl Try.func33 (by kernel_rfl) (by kernel_rfl)
theorem Jv2:Jh Try.prog 34:=Jl Try.func34 (by kernel_rfl) (by kernel_rfl)
theorem Jxk:Jh Try.prog 35:=Jl Try.func35 (by kernel_rfl) (by kernel_rfl)
theorem JwU:Jh Try.prog 36:=Jl Try.func36 (by kernel_rfl) (by kernel_rfl)
theorem JqW:Jh Try.prog 37:=Jl Try.func37 (by kernel_rfl) (by kernel_rfl)
theorem Jxi:Jh Try.prog 38:=Jl Try.func38 (by kernel_rfl) (by kernel_rfl)
theorem Jw7:Jh Try.prog 39:=Jl Try.func39 (by kernel_rfl) (by kernel_rfl)
theorem Jrs:Jh Try.prog 40:=Jl Try.func40 (by kernel_rfl) (by kernel_rfl)
theorem Jjx:Jh Try.prog 41:=Jl Try.func41 (by kernel_rfl) (by kernel_rfl)
theorem Jr5:Jh Try.prog 42:=Jl Try.func42 (by kernel_rfl) (by kernel_rfl)
theorem Jrm:Jh Try.prog 43:=Jl Try.func43 (by kernel_rfl) (by kernel_rfl)
theorem Jv7:Jh Try.prog 44:=Jl Try.func44 (by kernel_rfl) (by kernel_rfl)
theorem Jxg:Jh Try.prog 45:=Jl Try.func45 (by kernel_rfl) (by kernel_rfl)
theorem Jwx:Jh Try.prog 46:=Jl Try.func46 (by kernel_rfl) (by kernel_rfl)
theorem JrQ:Jh Try.prog 47:=Jl Try.func47 (by kernel_rfl) (by kernel_rfl)
theorem JwT:Jh Try.prog 48:=Jl Try.func48 (by kernel_rfl) (by kernel_rfl)
theorem Jxc:Jh Try.prog 49:=Jl Try.func49 (by kernel_rfl) (by kernel_rfl)
theorem JvU:Jh Try.prog 50:=Jl Try.func50 (by kernel_rfl) (by kernel_rfl)
theorem JrT:Jh Try.prog 51:=Jl Try.func51 (by kernel_rfl) (by kernel_rfl)
theorem Jrn:Jh Try.prog 52:=Jl Try.func52 (by kernel_rfl) (by kernel_rfl)
theorem JwD:Jh Try.prog 53:=Jl Try.func53 (by kernel_rfl) (by kernel_rfl)
theorem JwI:Jh Try.prog 54:=Jl Try.func54 (by kernel_rfl) (by kernel_rfl)
theorem Jwd:Jh Try.prog 55:=Jl Try.func55 (by kernel_rfl) (by kernel_rfl)
theorem Jwh:Jh Try.prog 56:=Jl Try.func56 (by kernel_rfl) (by kernel_rfl)
theorem JwE:Jh Try.prog 57:=Jl Try.func57 (by kernel_rfl) (by kernel_rfl)
theorem JwB:Jh Try.prog 58:=Jl Try.func58 (by kernel_rfl) (by kernel_rfl)
theorem JrV:Jh Try.prog 59:=Jl Try.func59 (by kernel_rfl) (by kernel_rfl)
theorem Jwm:Jh Try.prog 60:=Jl Try.func60 (by kernel_rfl) (by kernel_rfl)
theorem JvV:Jh Try.prog 61:=Jl Try.func61 (by kernel_rfl) (by kernel_rfl)
theorem Jrk:Jh Try.prog 62:=Jl Try.func62 (by kernel_rfl) (by kernel_rfl)
theorem Jv0:Jh Try.prog 63:=Jl Try.func63 (by kernel_rfl) (by kernel_rfl)
theorem Jwo:Jh Try.prog 64:=Jl Try.func64 (by kernel_rfl) (by kernel_rfl)
theorem Jw0:Jh Try.prog 67:=Jl Try.func67 (by kernel_rfl) (by kernel_rfl)
theorem Jv5:Jh Try.prog 69:=Jl Try.func69 (by kernel_rfl) (by kernel_rfl)
theorem Jwp:Jh Try.prog 74:=Jl Try.func74 (by kernel_rfl) (by kernel_rfl)
theorem Jxp:Jh Try.prog 75:=Jl Try.func75 (by kernel_rfl) (by kernel_rfl)
theorem Jwf:Jh Try.prog 76:=Jl Try.func76 (by kernel_rfl) (by kernel_rfl)
theorem Jv3:Jh Try.prog 77:=Jl Try.func77 (by kernel_rfl) (by kernel_rfl)
theorem Jrq:Jh Try.prog 78:=Jl Try.func78 (by kernel_rfl) (by kernel_rfl)
theorem Jw5:Jh Try.prog 79:=Jl Try.func79 (by kernel_rfl) (by kernel_rfl)
theorem Jwy:Jh Try.prog 83:=Jl Try.func83 (by kernel_rfl) (by kernel_rfl)
theorem Jxm:Jh Try.prog 84:=Jl Try.func84 (by kernel_rfl) (by kernel_rfl)
theorem Jry:Jh Try.prog 85:=Jl Try.func85 (by kernel_rfl) (by kernel_rfl)
theorem JwW:Jh Try.prog 86:=Jl Try.func86 (by kernel_rfl) (by kernel_rfl)
theorem Jxd:Jh Try.prog 87:=Jl Try.func87 (by kernel_rfl) (by kernel_rfl)
theorem JrS(l:List UInt8):u8s l=List.map dU l:=rfl
theorem mixed:Try.prog.follows .mixedOrders=true:=Try.checked.mixed
theorem Jk{α:Type}(σ:Nat→α)(d:Nat)(x:α)(i:Nat):upd σ d x i=if i=d then x else σ i:=rfl
theorem Jid{α:Type}(l:List α)(i:Nat):(l.drop i).take (l.length-i)=l.drop i:=List.take_of_length_le (by simp)
theorem Jol{α β:Type}(f:α→β)(l:List α)(i:Nat):(l.map f).drop i=(l.drop i).map f:=List.map_drop.symm
theorem JnL{α β:Type}(f:α→β)(l:List α)(i:Nat):(l.map f).take i=(l.take i).map f:=List.map_take.symm
theorem Js{S R:Type}{b:S→Option (S ⊕ R)}{n:Nat}{x:Option R}{o:S ⊕ R}{out:R}(h:inrO x=some o)(hF:Fin' b n o out):x=some out:=by
 obtain⟨r,h1,rfl⟩:=Jtw h
 cases hF
 exact h1
theorem JM{S R:Type}{b:S→Option (S ⊕ R)}{n:Nat}{s:S}{o:S ⊕ R}{out:R}(h:(some (.inl s):Option (S ⊕ R))=some o)(hF:Fin' b n o out):Fin' b n (.inl s) out:=by
 obtain rfl:=Option.some.inj h
 exact hF
end Go.Proofs.Ytaofbminodhcnaa
